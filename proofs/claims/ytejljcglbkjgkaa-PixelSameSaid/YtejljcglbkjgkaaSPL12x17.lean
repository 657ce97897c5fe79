/- Printed for this claim by a program of this session over the kit's print program: the Go functions as Lean functions, and proofs that the calls come to these answers. No conditions. -/
import Derived.Test.YtejljcglbkjgkaaSH
import Derived.Test.YtejljcglbkjgkaaSV
import Derived.Test.YtejljcglbkjgkaaSV2
import Derived.Test.YtejljcglbkjgkaaSV3
import Derived.LoopTactic
import Derived.StillTailTactics
import Derived.Laws.Rows
import Derived.Laws.CopyOwn
import Derived.Lib.BufferWrite
import Derived.Lib.SlBuf
import Derived.Test.YtejljcglbkjgkaaSPL12x3
import Derived.Test.YtejljcglbkjgkaaSPL12x8
import Derived.Test.YtejljcglbkjgkaaSPL12x10
import Derived.Test.YtejljcglbkjgkaaSPL12x12
import Derived.Test.YtejljcglbkjgkaaSPL12x15
namespace Go.Proofs.Ytejljcglbkjgkaa.PL12
open Go.RowKit Go.Proofs.YtejljcglbkjgkaaW.PrintWords Go.Proofs.YtejljcglbkjgkaaW.PrintLast Go.Proofs.YtejljcglbkjgkaaW.PrintMore
attribute [local go_sem] max2_int min2_int max_two min_two max_three min_three max_four min_four   -- for this text's walks alone
set_option linter.unusedVariables false
set_option linter.unusedSimpArgs false

open Go.Proofs.YtejljcglbkjgkaaV
open Go.Lib (byteCells)
structure PSh where
  W : Int
  H : Int
  D : Int
  C : Int
  L : Int
  pal : ByteArray
  tr : ByteArray
  ht : Bool
def CV (s : PSh) (gP n : Nat) (raw : ByteArray) : Array Value := #[.int .i64 s.W, .int .i64 s.H, .int .i64 s.D, .int .i64 s.C, .int .i64 s.L, .string s.pal, .string s.tr, .bool s.ht, .slice (some ⟨gP, 0, none⟩) n n, .string raw]
def PSC (p : S53) : Array Value := #[.int .i64 p.f0, .int .i64 p.f1, .int .i64 p.f2, .int .i64 p.f3, .int .i64 p.f4, .int .i64 p.f5]
def PX (pix : List Int) : Array Value := (nums .u8 pix).toArray
def px_copy (pix : List Int) (o : Nat) (q : ByteArray) : List Int := pix.take o ++ bytesOf q ++ pix.drop (o + q.size)
theorem px_copy_len {pix : List Int} {o : Nat} {q : ByteArray} (h : o + q.size ≤ pix.length) : (px_copy pix o q).length = pix.length := by
  unfold px_copy
  rw [List.length_append, List.length_append, List.length_take, List.length_drop, bytesOf_length]
  omega
def px_at (s : PSh) (p : S53) (y x : Int) : Int := wrap64 (wrap64 (wrap64 (wrap64 (p.f1 + wrap64 (y * p.f3)) * s.W) + p.f0) + wrap64 (x * p.f2))
def px_cols (k : Nat) (s : PSh) (p : S53) (y : Int) (v : List Int) (many : Int) : Nat → Nat → List Int → Option (Int × List Int)
  | 0, _, pix => some (0, pix)
  | m + 1, x, pix => if 0 ≤ wrap64 (many * (x : Int)) then (if wrap64 (many * (x : Int)) ≤ wrap64 (many * wrap64 ((x : Int) + 1)) then (if wrap64 (many * wrap64 ((x : Int) + 1)) ≤ (v.length : Int) then
      (samples_Pixel.f k s.W s.H s.D s.C s.L s.pal s.tr s.ht ((v.take (wrap64 (many * wrap64 ((x : Int) + 1))).toNat).drop (wrap64 (many * (x : Int))).toNat)).bind fun t => (if t.2 = 0 then
        (if (0 ≤ wrap64 (8 * px_at s p y (x : Int)) ∧ wrap64 (8 * px_at s p y (x : Int)) + (t.1.size : Int) ≤ (pix.length : Int)) ∧ 0 < t.1.size then px_cols k s p y v many m (x + 1) (px_copy pix (wrap64 (8 * px_at s p y (x : Int))).toNat t.1) else none)
        else some (t.2, pix)) else none) else none) else none
def px_row (k : Nat) (s : PSh) (p : S53) (y : Int) (line : ByteArray) (pix : List Int) : Option (Int × List Int) :=
  if 0 ≤ p.f4 ∧ p.f4 ≤ 4611686018427387904 then (head_Samples.f k s.C).bind fun many => (samples_Unpack.f k line s.D (wrap64 (many * p.f4))).bind fun t => (if t.2 = 0 then px_cols k s p y t.1 many p.f4.toNat 0 pix else some (t.2, pix)) else none
def px_rows (k : Nat) (s : PSh) (p : S53) (nI : Int) : Nat → Nat → ByteArray → ByteArray → List Int → Option (Int × List Int × ByteArray)
  | 0, _, _, raw, pix => some (0, pix, raw)
  | m + 1, y, above, raw, pix => if 0 < raw.size then (if 1 ≤ wrap64 (1 + nI) then (if wrap64 (1 + nI) ≤ (raw.size : Int) then (pixel_bpp.f k s.W s.H s.D s.C s.L).bind fun b =>
      (filter_Undo.f k b (wrap64 (bt raw 0)) (raw.extract 1 (wrap64 (1 + nI)).toNat) above).bind fun t => (if t.2 = 0 then
        (px_row k s p (y : Int) t.1 pix).bind fun r => (if r.1 = 0 then px_rows k s p nI m (y + 1) t.1 (raw.extract (wrap64 (1 + nI)).toNat raw.size) r.2 else some (r.1, r.2, raw))
        else some (t.2, pix, raw)) else none) else none) else none
def px_pass (k : Nat) (s : PSh) (p : S53) (raw : ByteArray) (pix : List Int) : Option (Int × List Int × ByteArray) :=
  if 0 ≤ p.f5 ∧ p.f5 ≤ 4611686018427387904 then (lace_Row.f k s.W s.H s.D s.C s.L p.f4).bind fun nI => px_rows k s p nI p.f5.toNat 0 (⟨#[]⟩ : ByteArray) raw pix else none
def px_all (k : Nat) (s : PSh) : List S53 → ByteArray → List Int → Option (Int × List Int)
  | [], _, pix => some (0, pix)
  | p :: ps, raw, pix => (px_pass k s p raw pix).bind fun t => (if t.1 = 0 then px_all k s ps t.2.2 t.2.1 else some (t.1, t.2.1))
def px_image (k : Nat) (s : PSh) (raw : ByteArray) : Option (Int × ByteArray) :=
  (head_Right.f k s.W s.H s.D s.C s.L).bind fun e => (if e = 0 then (lace_Size.f k s.W s.H s.D s.C s.L).bind fun n => (if (raw.size : Int) < n then some (30, (⟨#[]⟩ : ByteArray)) else if n < (raw.size : Int) then some (31, (⟨#[]⟩ : ByteArray)) else
    (if 0 ≤ wrap64 (wrap64 (8 * s.W) * s.H) ∧ wrap64 (wrap64 (8 * s.W) * s.H) ≤ 281474976710656 then (lace_Passes.f k s.W s.H s.D s.C s.L).bind fun ps => (if 0 < ps.length then
      (px_all k s ps raw (List.replicate (wrap64 (wrap64 (8 * s.W) * s.H)).toNat 0)).bind fun r => (if r.1 = 0 then some (0, strOfNums r.2) else some (r.1, (⟨#[]⟩ : ByteArray))) else none) else none)) else some (e, (⟨#[]⟩ : ByteArray)))
def RS (e : Int) (W H : Int) (b : ByteArray) : Array Value := if e = 0 then #[.int .i64 W, .int .i64 H, .string b] else #[.int .i64 0, .int .i64 0, .string (⟨#[]⟩ : ByteArray)]
def SHC (s : PSh) : Array Value := #[.int .i64 s.W, .int .i64 s.H, .int .i64 s.D, .int .i64 s.C, .int .i64 s.L, .string s.pal, .string s.tr, .bool s.ht]
theorem made_px (m : Nat) : madeCells #[Value.int .u8 0] m = PX (List.replicate m 0) := by
  apply Array.ext
  · simp [madeCells, PX, nums]
  · intro i h1 h2
    simp [madeCells, PX, nums, Nat.mod_one]
theorem px_make (z : Int) (n : Nat) (hz : z.toNat = n) (h0 : 0 ≤ z) (h1 : z ≤ 281474976710656) : ∀ W : World, (Instr.makeSlice 45 (.int .i64 z) (.int .i64 z)).run Try.prog W = .ok (.slice (some ⟨W.heap.size, 0, none⟩) n n) (W.alloc (.cells (PX (List.replicate n 0)) 5)) := by
  intro W
  subst hz
  rw [← made_px]
  exact print_make_int 45 5 (.int .u8 0) 1 Try.underlying45 info5 rfl (by decide) z h0 (by omega) W
theorem make_step {P : Program} {ops : Array Oper} {o : Oper} {a : Act} {Kc : Act → World → Prop} {Q : Exit → Act → World → Prop} {W : World} (hw : Region.wanted o (yielded ops a.tmps) = true) {N : Tmp} (_hd : o.dst = some N) {cs : Array Value} {t n : Nat}
    (hrun : (execOp a.eval o).run P W = .ok (.value (.slice (some ⟨W.heap.size, 0, none⟩) n n)) (W.alloc (.cells cs t (0, 0))))
    (h : ∀ g, g = W.heap.size → ∀ w1, w1.heap[g]? = some (.cells cs t (0, 0)) → Below W.heap.size W w1 → Kc (a.put o.dst (.slice (some ⟨g, 0, none⟩) n n)) w1) : if Region.wanted o (yielded ops a.tmps) = true then Oper.wp P o a W Kc Q else Kc (a.put o.dst undef) W :=
  event_step hw hrun (h _ rfl _ (blk_new W _) (below_alloc (Below.refl _ _) _))
theorem sv_new {w0 w : World} {L : List (Nat × Array Value × Nat)} (h : Sv w0 L w) (cs : Array Value) (t : Nat) : Sv w0 ((w.heap.size, cs, t) :: L) (w.alloc (.cells cs t)) := h.box (below_alloc (Below.refl _ _) _) rfl (blk_new w _)
theorem sv_add {w0 w : World} {L : List (Nat × Array Value × Nat)} (h : Sv w0 L w) {g t : Nat} {cs : Array Value} (hg : w.heap[g]? = some (.cells cs t (0, 0))) (h0 : w0.heap.size ≤ g) (ht : ∀ p ∈ L, p.2.2 ≠ t) : Sv w0 ((g, cs, t) :: L) w := by
  refine ⟨h.1, fun p hp => ?_, List.pairwise_cons.2 ⟨fun p hp => ?_, h.2.2⟩⟩
  · rcases List.mem_cons.1 hp with rfl | hp
    · exact ⟨hg, h0⟩
    · exact h.2.1 p hp
  · intro e
    have h1 := (h.2.1 p hp).1
    have e' : g = p.1 := e
    rw [← e', hg] at h1
    injection h1 with h1
    injection h1 with _ h1 _
    exact ht p hp h1.symm
theorem row_same {α : Type} {d : Kd α} (hE : d.E = []) {e base : Nat} {w w' : World} {ad : Addr} {n c : Nat} {xs : List α} (h : d.R e w base (fun _ => True) (.slice (some ad) n c) xs) (hs : w'.heap[ad.block]? = w.heap[ad.block]?) : d.R e w' base (fun _ => True) (.slice (some ad) n c) xs :=
  Kd.R_mono (Kd.R_step (Kd.R_tight hE h) (fun k hk _ => by have : k = ad.block := by simpa [Value.ownBlock] using hk
                                                           rw [this]; exact hs)) (fun _ _ => trivial)
theorem row_block {α : Type} {d : Kd α} {e base : Nat} {w : World} {ad : Addr} {n c : Nat} {xs : List α} (h : d.R e w base (fun _ => True) (.slice (some ad) n c) xs) : ∃ cells, w.heap[ad.block]? = some (.cells cells e (0, 0)) ∧ base ≤ ad.block := by
  obtain ⟨inner, ho⟩ := Kd.R_own h
  obtain ⟨cells, hc⟩ := own_typed ho ad.block rfl
  exact ⟨cells, hc, own_base ho ad.block rfl⟩
theorem own_px {w : World} {gP base n : Nat} {px : List Int} (h : w.heap[gP]? = some (.cells (PX px) 5 (0, 0))) (hb : base ≤ gP) (hl : px.length = n) (hm : n ≤ 281474976710656) : w.ownsRow base 5 1 (.slice (some ⟨gP, 0, none⟩) n n) n (nums .u8 px) := by
  have hs : (nums .u8 px).length = n := by unfold nums; rw [List.length_map]; exact hl
  exact ⟨by rw [hs, Nat.mul_one], .inr ⟨gP, n, PX px, rfl, hb, h, Nat.le_refl _, by unfold maxLen; omega, by show (nums .u8 px).toArray.size = _; rw [List.size_toArray, hs, Nat.mul_one], by show ((nums .u8 px).toArray.toList).take _ = _; rw [Nat.mul_one, List.take_of_length_le (by rw [hs]; exact Nat.le_refl _)]⟩⟩
theorem sv_perm {w0 w : World} {L L' : List (Nat × Array Value × Nat)} (h : Sv w0 L w) (p : L.Perm L') : Sv w0 L' w :=
  ⟨h.1, fun q hq => h.2.1 q (p.mem_iff.2 hq), (p.pairwise_iff (fun h_ e_ => h_ e_.symm)).1 h.2.2⟩
theorem sv_rot {w0 w : World} {a b c : Nat × Array Value × Nat} {M : List (Nat × Array Value × Nat)} (h : Sv w0 (a :: b :: c :: M) w) : Sv w0 (b :: c :: a :: M) w :=
  sv_perm h ((List.Perm.swap b a (c :: M)).trans (List.Perm.cons b (List.Perm.swap c a M)))
theorem sv_tail3 {w0 w : World} {a b c : Nat × Array Value × Nat} {M : List (Nat × Array Value × Nat)} (h : Sv w0 (b :: c :: a :: M) w) : Sv w0 (b :: c :: M) w :=
  (sv_perm h ((List.Perm.cons b (List.Perm.swap a c M)).trans (List.Perm.swap a b (c :: M)))).tail
theorem Sv.rowKept {w0 w : World} {L : List (Nat × Array Value × Nat)} {g : Nat} {cs : Array Value} {t : Nat} (h : Sv w0 L w) (i : Nat) (hi : L[i]? = some (g, cs, t)) {α : Type} {d : Kd α} {e base : Nat} {u : Value} {xs : List α} (ht : ∀ q, q ∈ e :: d.E → q ≠ t) (hR : d.R e w base (fun _ => True) u xs) (cs' : Array Value) : d.R e (w.setRow g cs') base (fun _ => True) u xs :=
  Kd.R_mono (Kd.R_step (Kd.R_types hR (h.at i hi) ht) (fun k hk _ => setRow_other w g k cs' hk.2)) (fun _ _ => trivial)
theorem px_cells (pix : List Int) (o : Nat) (q : ByteArray) : ((PX pix).toList.take o ++ byteCells q.data.toList ++ (PX pix).toList.drop (o + q.size)).toArray = PX (px_copy pix o q) := by
  unfold PX px_copy nums bytesOf byteCells
  simp [List.map_append, List.map_take, List.map_drop]
theorem px_cut (gP n : Nat) (o : Int) (h0 : 0 ≤ o) (h1 : o < (n : Int)) : ∀ W : World, (Instr.slice 45 (.slice (some ⟨gP, 0, none⟩) n n) (some (.int .i64 o)) none none).run Try.prog W = .ok (.slice (some ⟨gP, o.toNat, none⟩) (n - o.toNat) (n - o.toNat)) W := by
  obtain ⟨i, hi, _, hsz, _⟩ := info_parts info5
  intro W
  rw [cut_from 45 5 .i64 Try.underlying45 hi 1 hsz _ n n o h0 (by omega) W, if_neg (by omega)]
  simp [Addr.add]
  omega
theorem px_run (w : World) (gP o n : Nat) (px : List Int) (q : ByteArray) (hg : w.heap[gP]? = some (.cells (PX px) 5 (0, 0))) (hl : px.length = n) (h : o + q.size ≤ n) :
    (Builtin.copy_ #[45, 9] 3 #[.slice (some ⟨gP, o, none⟩) (n - o) (n - o), .string q]).run Try.prog w = .ok (goInt q.size) (w.setRow gP (PX (px_copy px o q))) := by
  rw [← px_cells]
  exact Go.Lib.run_copy_row_string w 45 9 3 5 gP o (n - o) (n - o) q (PX px) 5 Try.underlying45 (by kernel_rfl) hg (by omega) (by unfold PX nums; simp; omega)
theorem mea_px {i n : Nat} {x : Int} (h : i < n) (hx : x = ((i + 1 : Nat) : Int)) : n - (intOf (.int .i64 x)).toNat < n - (intOf (.int .i64 (i : Int))).toNat := by
  subst hx
  show n - (((i + 1 : Nat) : Int)).toNat < n - ((i : Int)).toNat
  omega
def PInv (k : Nat) (s : PSh) (p : S53) (y : Int) (v : List Int) (many : Int) (gb gc gP n : Nat) (raw : ByteArray) (vv : Value) (er : Int) (pix' : List Int) (M : List (Nat × Array Value × Nat)) (w0 : World) (m x : Nat) (px : List Int) (w' : World) : Prop :=
  Sv w0 ((gb, PSC p, 53) :: (gc, CV s gP n raw, 49) :: (gP, PX px, 5) :: M) w' ∧ Kd.R (Kd.int .i64) 3 w' w0.heap.size (fun _ => True) vv v ∧ px_cols k s p y v many (m - x) x px = some (er, pix') ∧ px.length = n
def px_row.T2 : Bool × List (List Nat × List Nat) := (true, [([], []), ([], []), ([1], [1]), ([2], [2]), ([3], [3]), ([4], [4]), ([5], [5]), ([], []), ([], []), ([8], [8]), ([7, 9], [7, 9]), ([0, 6, 10], [0, 6, 10]), ([11], [11]), ([12], [12]), ([12], [12]), ([13, 11, 0, 1, 2, 3, 4, 5, 6, 7, 8, 9, 10, 11, 12, 13], [13]), ([14, 15, 0, 1, 2, 3, 4, 5, 6, 7, 8, 9, 10, 11, 12, 13, 14, 15], [14])])
def px_row.B2 : List Nat := [0, 0, 2, 6, 14, 30, 62, 0, 0, 256, 896, 2047, 4095, 8191, 8191, 16383, 65535]
theorem px_row.tab2 : rtab .any (opsOf Try.f43 2) = px_row.T2 := by kernel_rfl
theorem px_row.bits2 : waitsOk px_row.T2.2 px_row.B2 = true := by kernel_rfl
def px_row.T8 : Bool × List (List Nat × List Nat) := (true, [([], []), ([0], [0]), ([1], [1]), ([2], [2]), ([], []), ([], []), ([], []), ([5, 6], [5, 6]), ([], []), ([], []), ([9], [9]), ([8, 10], [8, 10]), ([4, 7, 11], [4, 7, 11]), ([3, 12], [3, 12]), ([13], [13]), ([14], [14]), ([14], [14]), ([15, 13, 0, 1, 2, 3, 4, 5, 6, 7, 8, 9, 10, 11, 12, 13, 14, 15], [15]), ([16, 17, 0, 1, 2, 3, 4, 5, 6, 7, 8, 9, 10, 11, 12, 13, 14, 15, 16, 17], [16])])
def px_row.B8 : List Nat := [0, 1, 3, 7, 0, 0, 0, 96, 0, 0, 512, 1792, 4080, 8191, 16383, 32767, 32767, 65535, 262143]
theorem px_row.tab8 : rtab .any (opsOf Try.f43 8) = px_row.T8 := by kernel_rfl
theorem px_row.bits8 : waitsOk px_row.T8.2 px_row.B8 = true := by kernel_rfl
def px_row.T11 : Bool × List (List Nat × List Nat) := (true, [([], []), ([0], [0]), ([], []), ([], []), ([3], [3]), ([2, 4], [2, 4]), ([1, 5], [1, 5]), ([], []), ([7], [7]), ([8], [8]), ([9], [9]), ([10], [10]), ([11], [11]), ([6, 12], [6, 12]), ([], []), ([14], [14]), ([13, 15], [13, 15]), ([], []), ([], []), ([18], [18]), ([17, 19], [17, 19]), ([16, 20], [16, 20]), ([21, 0, 1, 2, 3, 4, 5, 6, 7, 8, 9, 10, 11, 12, 13, 14, 15, 16, 17, 18, 19, 20, 21], [21])])
def px_row.B11 : List Nat := [0, 1, 0, 0, 8, 28, 63, 0, 128, 384, 896, 1920, 3968, 8191, 0, 16384, 65535, 0, 0, 262144, 917504, 2097151, 4194303]
theorem px_row.tab11 : rtab .any (opsOf Try.f43 11) = px_row.T11 := by kernel_rfl
theorem px_row.bits11 : waitsOk px_row.T11.2 px_row.B11 = true := by kernel_rfl
set_option maxHeartbeats 40000000 in
set_option maxRecDepth 100000 in
theorem px_row_calls (k : Nat) (s : PSh) (p : S53) (y : Int) (line raw : ByteArray) (pix pix' : List Int) (n : Nat) (er : Int) (gc gP : Nat) (M : List (Nat × Array Value × Nat)) (w0 w : World) (h : Sv w0 ((gc, CV s gP n raw, 49) :: (gP, PX pix, 5) :: M) w) (hn : pix.length = n) (hf : px_row k s p y line pix = some (er, pix')) :
    Calls Try.prog 43 #[.pointer (some ⟨gc, 0, none⟩), .agg #[.int .i64 p.f0, .int .i64 p.f1, .int .i64 p.f2, .int .i64 p.f3, .int .i64 p.f4, .int .i64 p.f5], .int .i64 y, .string line] w fun e w' => e = .returned (.int .i64 er) ∧ Sv w0 ((gc, CV s gP n raw, 49) :: (gP, PX pix', 5) :: M) w' ∧ pix'.length = n := by
  unfold px_row at hf
  by_cases hsm : 0 ≤ p.f4 ∧ p.f4 ≤ 4611686018427387904
  · skip
    rw [if_pos hsm] at hf
    obtain ⟨many, hmany, hf1⟩ := Option.bind_eq_some_iff.1 hf
    clear hf
    obtain ⟨⟨v, e1⟩, hun, hf⟩ := Option.bind_eq_some_iff.1 hf1
    clear hf1
    have HM := Aside0.mk hmany
    have HU := Aside0.mk hun
    have HF := Aside0.mk hf
    have HN := Aside0.mk hn
    have HSM := Aside0.mk hsm
    have HS := Aside0.mk h
    clear hmany hun hf hn hsm h
    go_enter Try.func43, Try.ntmps43
    go_upto_region 2 with (first | ((with_reducible refine gate_dst (N := 5) rfl ?_); refine box_event ?hg (N := 5) ?hd (cs := PSC p) (t := 53) ?hr ?_; (case hd => rfl); (case hg => rfl); (case hr => first | (go_simp; done) | (go_simp; rfl)); intro gb hg w1 hbox hb; have n0_ := Aside0.mk (HS.out.box hb hg hbox); clear HS hb hg hbox; have HS := n0_; clear n0_; have y3 := (HS.out.cell 1 rfl 3).trans (show (CV s gP n raw : Array Value)[3]? = some (.int .i64 s.C) from rfl)) | (go_at_call 54; (with_reducible refine (head_Samples.calls k s.C many _ HM.out).mono ?_); rintro e w2 ⟨rfl, hb⟩; have n0_ := Aside0.mk (HS.out.step hb); clear HS hb; have HS := n0_; clear n0_; clear y3))
    have n0_ := Aside0.mk HS.out.drew
    clear HS
    have HS := n0_
    clear n0_
    refine start_ (n := 17) (S := fun w' => w'.cell? ⟨gc, 2, none⟩ = some (.int .i64 s.D) ∧ w'.cell? ⟨gb, 4, none⟩ = some (.int .i64 p.f4)) (ds := []) (bm 17 0) (by kernel_rfl) rfl rfl ⟨(HS.out.cell 1 rfl 2).trans rfl, (HS.out.cell 0 rfl 4).trans rfl⟩ (fun hHeld => ?_)
    refine with_tabW px_row.tab2 px_row.bits2 (fun HT_ HW_ => ?_)
    generalize World.drew _ = w3 at HS  hHeld ⊢
    refine zp 0 24 (bm 17 1) ?_
    refine zp 1 25 (bm 17 3) ?_
    refine zp 2 26 (bm 17 7) ?_
    refine zp 3 27 (bm 17 15) ?_
    refine zp 4 28 (bm 17 31) ?_
    refine zp 5 29 (bm 17 63) ?_
    refine zt 6 30 (bm 17 127) rfl (by rintro w' ⟨s0_, s1_⟩; go_simp; with_reducible rfl) ?_
    refine zp 7 31 (bm 17 255) ?_
    refine zp 8 32 (bm 17 511) ?_
    refine zt 9 33 (bm 17 1023) rfl (by rintro w' ⟨s0_, s1_⟩; go_simp; with_reducible rfl) ?_
    refine zp 10 34 (bm 17 2047) ?_
    refine one_ (i := 11) (N := some 35) (bm 17 4095) rfl rfl (one_of HT_.out (by kernel_rfl)) (by decide) (fun K hK => ?_)
    refine goes_ Try.func58 (by kernel_rfl) rfl #[.string line, .int .i64 s.D, .int .i64 (wrap64 (many * p.f4))] (by rfl) rfl rfl (by (try simp only [List.map_toArray, List.map_cons, List.map_nil]); first | done | rfl) ?_
    with_reducible refine (samples_Unpack.calls k line s.D (wrap64 (many * p.f4)) v e1 _ HU.out).mono ?_
    rintro e w_ ⟨v10, rfl, ho_, hb⟩
    refine ⟨_, rfl, ?_⟩
    have n1_ := Aside0.mk (Kd.R_lower ho_ HS.out.below.size)
    clear ho_
    have n0_ := Aside0.mk (HS.out.step hb)
    clear HS hb
    have HS := n0_
    clear n0_
    have HO := n1_
    clear n1_
    refine hK.out _ _ ⟨(HS.out.cell 1 rfl 2).trans rfl, (HS.out.cell 0 rfl 4).trans rfl⟩ (fun hHeld => ?_)
    clear hK K
    refine norm_ (a' := ?_) ?_ ?_
    rotate_left
    · show Act.put _ (some 35) _ = _
      simp only [Act.put, zq1, zq2, zq3, i64_w, i32_w]
      rfl
    refine zp 12 23 (bm 17 8191) ?_
    refine zp 13 36 (bm 17 16383) ?_
    refine zp 14 37 (bm 17 32767) ?_
    refine zp 15 10 (bm 17 65535) ?_
    refine zp 16 11 (bm 17 131071) ?_
    refine done_ (done_of HT_.out (by kernel_rfl)) ?_
    clear HT_ HW_ hHeld
    by_cases he : e1 = 0
    · have q0 : (e1 != 0) = false := bne_eq_false_iff_eq.mpr he
      have HF2 := Aside0.mk ((if_pos he).symm.trans HF.out)
      clear HF he
      obtain ⟨Ao, co, rfl⟩ := Kd.R_slice HO.out
      have y4 := (HS.out.cell 0 rfl 4).trans (show (PSC p : Array Value)[4]? = some (.int .i64 p.f4) from rfl)
      go_wp2
      go_loopw [43] (fun v43 w' => ∃ (x : Nat) (px : List Int), v43 = .int .i64 (x : Int) ∧ x ≤ p.f4.toNat ∧ Aside0 (PInv k s p y v many gb gc gP n raw (.slice Ao v.length co) er pix' M w0 (p.f4.toNat) x px w')) (fun v _ => p.f4.toNat - (intOf v).toNat)
      case atStart => exact ⟨0, pix, rfl, Nat.zero_le _, ⟨HS.out, HO.out, HF2.out, HN.out⟩⟩
      case round =>
        obtain ⟨x, px, rfl, hx, HI⟩ := hrel
        clear HS HO HF2 y4 q0
        have HS := Aside0.mk HI.out.1
        have HO := Aside0.mk HI.out.2.1
        have HF := Aside0.mk HI.out.2.2.1
        have HN := Aside0.mk HI.out.2.2.2
        clear HI
        by_cases hlt : x < p.f4.toNat
        · have HLT := Aside0.mk hlt
          have HSM0 := Aside0.mk (show (x : Int) < p.f4 by have := HSM.out; omega)
          have q0 : decide ((x : Int) < p.f4) = true := decide_eq_true HSM0.out
          clear hlt hx
          obtain ⟨m, hm⟩ : ∃ m, p.f4.toNat - x = m + 1 := ⟨p.f4.toNat - x - 1, by have := HLT.out; omega⟩
          have hf := HF.out
          rw [hm, px_cols] at hf
          have HM1 := Aside0.mk (show p.f4.toNat - (x + 1) = m by omega)
          clear HF hm
          have HW := Aside0.mk (show wrap64 ((x : Int) + 1) = ((x + 1 : Nat) : Int) by have := HSM.out; have := HSM0.out; unfold wrap64; omega)
          obtain ⟨lo, hlo⟩ : ∃ z, wrap64 (many * (x : Int)) = z := ⟨_, rfl⟩
          obtain ⟨hi, hhi⟩ : ∃ z, wrap64 (many * wrap64 ((x : Int) + 1)) = z := ⟨_, rfl⟩
          rw [hlo, hhi] at hf
          by_cases a0 : 0 ≤ lo
          rotate_left
          · rw [if_neg a0] at hf; cases hf
          rw [if_pos a0] at hf
          by_cases a1 : lo ≤ hi
          rotate_left
          · rw [if_neg a1] at hf; cases hf
          rw [if_pos a1] at hf
          by_cases a2 : hi ≤ (v.length : Int)
          rotate_left
          · rw [if_neg a2] at hf; cases hf
          rw [if_pos a2] at hf
          obtain ⟨⟨q, e2⟩, hpx, hf1⟩ := Option.bind_eq_some_iff.1 hf
          clear hf
          have hf := hf1
          clear hf1
          have HF := Aside0.mk hf
          have HPX := Aside0.mk hpx
          clear hf hpx
          obtain ⟨at_, hat⟩ : ∃ z, px_at s p y (x : Int) = z := ⟨_, rfl⟩
          obtain ⟨i027, hi027, _, hsz27, _⟩ := info_parts info3
          obtain ⟨A27, hcut27, hA27, hC27⟩ := print_mid_of (P := Try.prog) (Value.int .i64) 0 37 3 .i64 .i64 Try.underlying37 hi027 hsz27 Ao co v lo hi a0 a1 a2 (Kd.R_reads' HO.out).2.1
          have HR : Aside0 (Kd.C (Kd.int .i64) wr A27 ((v.take hi.toNat).drop lo.toNat).length ((v.take hi.toNat).drop lo.toNat)) := ⟨Kd.C_of_reads (h1 := fun _ => rfl) (hA27 _ (Kd.reads_of_C (Kd.R_reads' HO.out).2.2))⟩
          have HC := Aside0.mk hC27
          clear hA27 hC27 hi027 hsz27
          have g0 := eq_true a0
          have g1 := eq_true a1
          have g2 := eq_true a2
          have b0 : decide (0 ≤ lo) = true := decide_eq_true a0
          have b1 : decide (lo ≤ hi) = true := decide_eq_true a1
          have b2 : decide (hi ≤ (v.length : Int)) = true := decide_eq_true a2
          have z0 : (IntKind.i64.wrap (many * (x : Int))) = lo := (i64_w _).trans hlo
          have z1 : (IntKind.i64.wrap (many * (IntKind.i64.wrap ((x : Int) + 1)))) = hi := by rw [i64_w, i64_w]; exact hhi
          go_wp2
          have n1_ := Aside0.mk (Kd.R_drew HO.out)
          have n2_ := Aside0.mk (Kd.C_drew HR.out)
          clear HO HR
          have HO := n1_
          have HR := n2_
          clear n1_ n2_
          have n0_ := Aside0.mk HS.out.drew
          clear HS
          have HS := n0_
          clear n0_
          refine start_ (n := 19) (S := fun w' => w'.cell? ⟨gc, 0, none⟩ = some (.int .i64 s.W) ∧ w'.cell? ⟨gc, 1, none⟩ = some (.int .i64 s.H) ∧ w'.cell? ⟨gc, 2, none⟩ = some (.int .i64 s.D) ∧ w'.cell? ⟨gc, 3, none⟩ = some (.int .i64 s.C) ∧ w'.cell? ⟨gc, 4, none⟩ = some (.int .i64 s.L) ∧ w'.cell? ⟨gc, 5, none⟩ = some (.string s.pal) ∧ w'.cell? ⟨gc, 6, none⟩ = some (.string s.tr) ∧ w'.cell? ⟨gc, 7, none⟩ = some (.bool s.ht)) (ds := []) (bm 19 0) (by kernel_rfl) rfl rfl ⟨(HS.out.cell 1 rfl 0).trans rfl, (HS.out.cell 1 rfl 1).trans rfl, (HS.out.cell 1 rfl 2).trans rfl, (HS.out.cell 1 rfl 3).trans rfl, (HS.out.cell 1 rfl 4).trans rfl, (HS.out.cell 1 rfl 5).trans rfl, (HS.out.cell 1 rfl 6).trans rfl, (HS.out.cell 1 rfl 7).trans rfl⟩ (fun hHeld => ?_)
          refine with_tabW px_row.tab8 px_row.bits8 (fun HT_ HW_ => ?_)
          generalize World.drew _ = w3 at HS HO HR hHeld ⊢
          refine zp 0 47 (bm 19 1) ?_
          refine zp 1 48 (bm 19 3) ?_
          refine zp 2 49 (bm 19 7) ?_
          refine zt 3 50 (bm 19 15) rfl (by rintro w' ⟨s0_, s1_, s2_, s3_, s4_, s5_, s6_, s7_⟩; go_simp; with_reducible rfl) ?_
          refine zp 4 51 (bm 19 31) ?_
          refine zp 5 52 (bm 19 63) ?_
          refine zp 6 53 (bm 19 127) ?_
          refine zp 7 54 (bm 19 255) ?_
          refine zp 8 55 (bm 19 511) ?_
          refine zp 9 56 (bm 19 1023) ?_
          refine zp 10 57 (bm 19 2047) ?_
          refine zp 11 58 (bm 19 4095) ?_
          refine zp 12 59 (bm 19 8191) ?_
          refine one_ (i := 13) (N := some 60) (bm 19 16383) rfl rfl (one_of HT_.out (by kernel_rfl)) (by decide) (fun K hK => ?_)
          have hlen_ : hi.toNat - lo.toNat = ((v.take hi.toNat).drop lo.toNat).length := by rw [List.length_drop, List.length_take]; omega
          refine goes_ Try.func59 (by kernel_rfl) rfl #[.agg #[.int .i64 s.W, .int .i64 s.H, .int .i64 s.D, .int .i64 s.C, .int .i64 s.L, .string s.pal, .string s.tr, .bool s.ht], .slice A27 (hi.toNat - lo.toNat) (co - lo.toNat)] (by rfl) rfl rfl (by (try simp only [List.map_toArray, List.map_cons, List.map_nil]); first | done | rfl) ?_
          with_reducible refine ((show Calls Try.prog 59 #[.agg #[.int .i64 s.W, .int .i64 s.H, .int .i64 s.D, .int .i64 s.C, .int .i64 s.L, .string s.pal, .string s.tr, .bool s.ht], .slice A27 (hi.toNat - lo.toNat) (co - lo.toNat)] _ _ from by rw [hlen_]; exact samples_Pixel.calls k s.W s.H s.D s.C s.L s.pal s.tr s.ht A27 (co - lo.toNat) ((v.take hi.toNat).drop lo.toNat) q e2 _ HR.out HC.out HPX.out)).mono ?_
          rintro e w_ ⟨rfl, hb⟩
          refine ⟨_, rfl, ?_⟩
          have n1_ := Aside0.mk (Kd.R_below HO.out hb)
          clear HO HR HC hlen_
          have HO := n1_
          clear n1_
          have n0_ := Aside0.mk (HS.out.step hb)
          clear HS hb
          have HS := n0_
          clear n0_
          refine hK.out _ _ ⟨(HS.out.cell 1 rfl 0).trans rfl, (HS.out.cell 1 rfl 1).trans rfl, (HS.out.cell 1 rfl 2).trans rfl, (HS.out.cell 1 rfl 3).trans rfl, (HS.out.cell 1 rfl 4).trans rfl, (HS.out.cell 1 rfl 5).trans rfl, (HS.out.cell 1 rfl 6).trans rfl, (HS.out.cell 1 rfl 7).trans rfl⟩ (fun hHeld => ?_)
          clear hK K
          refine norm_ (a' := ?_) ?_ ?_
          rotate_left
          · show Act.put _ (some 60) _ = _
            simp only [Act.put, zq1, zq2, zq3, i64_w, i32_w]
            rfl
          refine zp 14 46 (bm 19 32767) ?_
          refine zp 15 61 (bm 19 65535) ?_
          refine zp 16 62 (bm 19 131071) ?_
          refine zp 17 13 (bm 19 262143) ?_
          refine zp 18 14 (bm 19 524287) ?_
          refine done_ (done_of HT_.out (by kernel_rfl)) ?_
          clear HT_ HW_ hHeld
          clear hcut27 g0 g1 g2 b0 b1 b2 z0 z1 a0 a1 a2 q0 hlo hhi
          by_cases he2 : e2 = 0
          · skip
            have HF2 := Aside0.mk ((if_pos he2).symm.trans HF.out)
            have q1 : (e2 != 0) = false := bne_eq_false_iff_eq.mpr he2
            clear HF he2
            go_wp2
            have n1_ := Aside0.mk (Kd.R_drew HO.out)
            clear HO
            have HO := n1_
            clear n1_
            have n0_ := Aside0.mk HS.out.drew
            clear HS
            have HS := n0_
            clear n0_
            refine start_ (n := 23) (S := fun w' => w'.cell? ⟨gb, 0, none⟩ = some (.int .i64 p.f0) ∧ w'.cell? ⟨gb, 1, none⟩ = some (.int .i64 p.f1) ∧ w'.cell? ⟨gb, 2, none⟩ = some (.int .i64 p.f2) ∧ w'.cell? ⟨gb, 3, none⟩ = some (.int .i64 p.f3) ∧ w'.cell? ⟨gc, 0, none⟩ = some (.int .i64 s.W)) (ds := []) (bm 23 0) (by kernel_rfl) rfl rfl ⟨(HS.out.cell 0 rfl 0).trans rfl, (HS.out.cell 0 rfl 1).trans rfl, (HS.out.cell 0 rfl 2).trans rfl, (HS.out.cell 0 rfl 3).trans rfl, (HS.out.cell 1 rfl 0).trans rfl⟩ (fun hHeld => ?_)
            refine with_tabW px_row.tab11 px_row.bits11 (fun HT_ HW_ => ?_)
            generalize World.drew _ = w4 at HS HO hHeld ⊢
            refine zp 0 66 (bm 23 1) ?_
            refine zt 1 67 (bm 23 3) rfl (by rintro w' ⟨s0_, s1_, s2_, s3_, s4_⟩; go_simp; with_reducible rfl) ?_
            refine zp 2 68 (bm 23 7) ?_
            refine zp 3 69 (bm 23 15) ?_
            refine zt 4 70 (bm 23 31) rfl (by rintro w' ⟨s0_, s1_, s2_, s3_, s4_⟩; go_simp; with_reducible rfl) ?_
            refine zp 5 71 (bm 23 63) ?_
            refine zp 6 72 (bm 23 127) ?_
            refine zp 7 73 (bm 23 255) ?_
            refine zp 8 74 (bm 23 511) ?_
            refine zp 9 75 (bm 23 1023) ?_
            refine zp 10 76 (bm 23 2047) ?_
            refine zp 11 77 (bm 23 4095) ?_
            refine zt 12 78 (bm 23 8191) rfl (by rintro w' ⟨s0_, s1_, s2_, s3_, s4_⟩; go_simp; with_reducible rfl) ?_
            refine zp 13 79 (bm 23 16383) ?_
            refine zp 14 80 (bm 23 32767) ?_
            refine zt 15 81 (bm 23 65535) rfl (by rintro w' ⟨s0_, s1_, s2_, s3_, s4_⟩; go_simp; with_reducible rfl) ?_
            refine zp 16 82 (bm 23 131071) ?_
            refine zp 17 83 (bm 23 262143) ?_
            refine zp 18 84 (bm 23 524287) ?_
            refine zt 19 85 (bm 23 1048575) rfl (by rintro w' ⟨s0_, s1_, s2_, s3_, s4_⟩; go_simp; with_reducible rfl) ?_
            refine zp 20 86 (bm 23 2097151) ?_
            refine zp 21 87 (bm 23 4194303) ?_
            refine zp 22 15 (bm 23 8388607) ?_
            have hat2 := hat
            unfold px_at at hat2
            refine done_ (done_of HT_.out (by kernel_rfl)) ?_
            clear HT_ HW_ hHeld
            rw [hat2]
            clear hat2
            have hf := HF2.out
            rw [hat] at hf
            clear HF2
            obtain ⟨o_, ho_⟩ : ∃ z, wrap64 (8 * at_) = z := ⟨_, rfl⟩
            rw [ho_] at hf
            by_cases c0 : (0 ≤ o_ ∧ o_ + (q.size : Int) ≤ (px.length : Int)) ∧ 0 < q.size
            rotate_left
            · rw [if_neg c0] at hf; cases hf
            rw [if_pos c0] at hf
            have HF := Aside0.mk hf
            have HC0 := Aside0.mk c0
            clear hf c0 hat
            have hcut_ := px_cut gP n o_ HC0.out.1.1 (by have := HC0.out; have := HN.out; omega)
            have hfit_ : o_.toNat + q.size ≤ n := by have := HC0.out; have := HN.out; omega
            have HFIT := Aside0.mk hfit_
            clear hfit_
            have z3 : (IntKind.i64.wrap (8 * at_)) = o_ := (i64_w _).trans ho_
            have y8 := (HS.out.cell 1 rfl 8).trans (show (CV s gP n raw : Array Value)[8]? = some (.slice (some ⟨gP, 0, none⟩) n n) from rfl)
            have hcp_ := px_run w4 gP o_.toNat n px q (HS.out.at 2 rfl) HN.out HFIT.out
            go_wp2
            clear hcp_ hcut_
            go_roundw
            case rel => exact ⟨x + 1, px_copy px o_.toNat q, by first | rfl | (rw [HW.out]) | go_num, HLT.out, ⟨HS.out.setRow 2 rfl (PX (px_copy px o_.toNat q)), Sv.rowKept HS.out 2 rfl (by decide) HO.out _, by rw [HM1.out]; exact HF.out, (px_copy_len (by rw [HN.out]; exact HFIT.out)).trans HN.out⟩⟩
            case measure => exact mea_px HLT.out HW.out
          · have h3 : some (e2, px) = some (er, pix') := (if_neg he2).symm.trans HF.out
            have q1 : (e2 != 0) = true := bne_iff_ne.mpr he2
            obtain ⟨rfl, rfl⟩ := Prod.mk.inj (Option.some.inj h3)
            clear h3 HF he2
            go_wp2
            go_ret
            exact ⟨rfl, HS.out.tail, HN.out⟩
        · obtain rfl : x = p.f4.toNat := by omega
          have q0 : decide (((p.f4.toNat : Nat) : Int) < p.f4) = false := decide_eq_false (by have := HSM.out; omega)
          have h3 := HF.out
          rw [Nat.sub_self, px_cols] at h3
          obtain ⟨rfl, rfl⟩ := Prod.mk.inj (Option.some.inj h3)
          clear h3 HF hlt hx
          go_wp2
          go_ret
          exact ⟨rfl, HS.out.tail, HN.out⟩
    · have h3 : some (e1, pix) = some (er, pix') := (if_neg he).symm.trans HF.out
      have q0 : (e1 != 0) = true := bne_iff_ne.mpr he
      obtain ⟨rfl, rfl⟩ := Prod.mk.inj (Option.some.inj h3)
      clear h3 HF he
      go_wp2
      go_ret
      exact ⟨rfl, HS.out.tail, HN.out⟩
  · rw [if_neg hsm] at hf; cases hf
def QInv (k : Nat) (s : PSh) (p : S53) (nI : Int) (gb gc gP n : Nat) (er : Int) (pix' : List Int) (raw' : ByteArray) (M : List (Nat × Array Value × Nat)) (w0 : World) (m y : Nat) (ab rw_ : ByteArray) (px : List Int) (w' : World) : Prop :=
  Sv w0 ((gc, CV s gP n rw_, 49) :: (gP, PX px, 5) :: (gb, PSC p, 53) :: M) w' ∧ px_rows k s p nI (m - y) y ab rw_ px = some (er, pix', raw') ∧ px.length = n
def px_pass.T1 : Bool × List (List Nat × List Nat) := (true, [([], []), ([0], [0]), ([1], [1]), ([2], [2]), ([3], [3]), ([], []), ([5], [5]), ([4, 6], [4, 6]), ([7, 7, 0, 1, 2, 3, 4, 5, 6, 7], [7])])
def px_pass.B1 : List Nat := [0, 1, 3, 7, 15, 0, 32, 127, 255]
theorem px_pass.tab1 : rtab .any (opsOf Try.f23 1) = px_pass.T1 := by kernel_rfl
theorem px_pass.bits1 : waitsOk px_pass.T1.2 px_pass.B1 = true := by kernel_rfl
def px_pass.T6 : Bool × List (List Nat × List Nat) := (true, [([], []), ([0], [0]), ([1], [1]), ([2], [2]), ([3], [3]), ([4], [4]), ([], []), ([6], [6]), ([7], [7]), ([8], [8]), ([9], [9]), ([10], [10]), ([], []), ([12], [12]), ([13], [13]), ([14], [14]), ([], []), ([16], [16]), ([15, 17], [15, 17]), ([], []), ([5, 11, 18, 19, 5], [5, 11, 18, 19]), ([20], [20]), ([21], [21]), ([21], [21]), ([22, 20, 0, 1, 2, 3, 4, 5, 6, 7, 8, 9, 10, 11, 12, 13, 14, 15, 16, 17, 18, 19, 20, 21, 22], [22]), ([23, 24, 0, 1, 2, 3, 4, 5, 6, 7, 8, 9, 10, 11, 12, 13, 14, 15, 16, 17, 18, 19, 20, 21, 22, 23, 24], [23])])
def px_pass.B6 : List Nat := [0, 1, 3, 7, 15, 31, 0, 64, 192, 448, 960, 1984, 0, 4096, 12288, 28672, 0, 65536, 258048, 0, 1048575, 2097151, 4194303, 4194303, 8388607, 33554431]
theorem px_pass.tab6 : rtab .any (opsOf Try.f23 6) = px_pass.T6 := by kernel_rfl
theorem px_pass.bits6 : waitsOk px_pass.T6.2 px_pass.B6 = true := by kernel_rfl
set_option maxHeartbeats 40000000 in
set_option maxRecDepth 100000 in
theorem px_pass_calls (k : Nat) (s : PSh) (p : S53) (raw raw' : ByteArray) (pix pix' : List Int) (n : Nat) (er : Int) (gc gP : Nat) (M : List (Nat × Array Value × Nat)) (w0 w : World) (h : Sv w0 ((gc, CV s gP n raw, 49) :: (gP, PX pix, 5) :: M) w) (hn : pix.length = n) (hf : px_pass k s p raw pix = some (er, pix', raw')) :
    Calls Try.prog 23 #[.pointer (some ⟨gc, 0, none⟩), .agg #[.int .i64 p.f0, .int .i64 p.f1, .int .i64 p.f2, .int .i64 p.f3, .int .i64 p.f4, .int .i64 p.f5]] w fun e w' => e = .returned (.int .i64 er) ∧ Sv w0 ((gc, CV s gP n raw', 49) :: (gP, PX pix', 5) :: M) w' ∧ pix'.length = n := by
  unfold px_pass at hf
  by_cases hsm : 0 ≤ p.f5 ∧ p.f5 ≤ 4611686018427387904
  rotate_left
  · rw [if_neg hsm] at hf; cases hf
  rw [if_pos hsm] at hf
  obtain ⟨nI, hnI, hf1⟩ := Option.bind_eq_some_iff.1 hf
  clear hf
  have HNI := Aside0.mk hnI
  have HF := Aside0.mk hf1
  have HN := Aside0.mk hn
  have HSM := Aside0.mk hsm
  have HS := Aside0.mk h
  clear hnI hf1 hn hsm h
  go_enter Try.func23, Try.ntmps23
  go_upto_region 1 with ((with_reducible refine gate_dst (N := 3) rfl ?_); refine box_event ?hg (N := 3) ?hd (cs := PSC p) (t := 53) ?hr ?_; (case hd => rfl); (case hg => rfl); (case hr => first | (go_simp; done) | (go_simp; rfl)); intro gb hg w1 hbox hb; have n0_ := Aside0.mk (sv_rot (HS.out.box hb hg hbox)); clear HS hb hg hbox; have HS := n0_; clear n0_)
  have n0_ := Aside0.mk HS.out.drew
  clear HS
  have HS := n0_
  clear n0_
  refine start_ (n := 9) (S := fun w' => w'.cell? ⟨gc, 0, none⟩ = some (.int .i64 s.W) ∧ w'.cell? ⟨gc, 1, none⟩ = some (.int .i64 s.H) ∧ w'.cell? ⟨gc, 2, none⟩ = some (.int .i64 s.D) ∧ w'.cell? ⟨gc, 3, none⟩ = some (.int .i64 s.C) ∧ w'.cell? ⟨gc, 4, none⟩ = some (.int .i64 s.L) ∧ w'.cell? ⟨gb, 4, none⟩ = some (.int .i64 p.f4)) (ds := []) (bm 9 0) (by kernel_rfl) rfl rfl ⟨(HS.out.cell 0 rfl 0).trans rfl, (HS.out.cell 0 rfl 1).trans rfl, (HS.out.cell 0 rfl 2).trans rfl, (HS.out.cell 0 rfl 3).trans rfl, (HS.out.cell 0 rfl 4).trans rfl, (HS.out.cell 2 rfl 4).trans rfl⟩ (fun hHeld => ?_)
  refine with_tabW px_pass.tab1 px_pass.bits1 (fun HT_ HW_ => ?_)
  generalize World.drew _ = w2 at HS  hHeld ⊢
  refine zp 0 11 (bm 9 1) ?_
  refine zp 1 12 (bm 9 3) ?_
  refine zp 2 13 (bm 9 7) ?_
  refine zp 3 14 (bm 9 15) ?_
  refine zt 4 15 (bm 9 31) rfl (by rintro w' ⟨s0_, s1_, s2_, s3_, s4_, s5_⟩; go_simp; with_reducible rfl) ?_
  refine zp 5 16 (bm 9 63) ?_
  refine zt 6 17 (bm 9 127) rfl (by rintro w' ⟨s0_, s1_, s2_, s3_, s4_, s5_⟩; go_simp; with_reducible rfl) ?_
  refine one_ (i := 7) (N := some 18) (bm 9 255) rfl rfl (one_of HT_.out (by kernel_rfl)) (by decide) (fun K hK => ?_)
  refine goes_ Try.func39 (by kernel_rfl) rfl #[.agg #[.int .i64 s.W, .int .i64 s.H, .int .i64 s.D, .int .i64 s.C, .int .i64 s.L], .int .i64 p.f4] (by rfl) rfl rfl (by (try simp only [List.map_toArray, List.map_cons, List.map_nil]); first | done | rfl) ?_
  with_reducible refine (lace_Row.calls k s.W s.H s.D s.C s.L p.f4 nI _ HNI.out).mono ?_
  rintro e w_ ⟨rfl, hb⟩
  refine ⟨_, rfl, ?_⟩
  have n0_ := Aside0.mk (HS.out.step hb)
  clear HS hb
  have HS := n0_
  clear n0_
  refine hK.out _ _ ⟨(HS.out.cell 0 rfl 0).trans rfl, (HS.out.cell 0 rfl 1).trans rfl, (HS.out.cell 0 rfl 2).trans rfl, (HS.out.cell 0 rfl 3).trans rfl, (HS.out.cell 0 rfl 4).trans rfl, (HS.out.cell 2 rfl 4).trans rfl⟩ (fun hHeld => ?_)
  clear hK K
  refine norm_ (a' := ?_) ?_ ?_
  rotate_left
  · show Act.put _ (some 18) _ = _
    simp only [Act.put, zq1, zq2, zq3, i64_w, i32_w]
    rfl
  refine zp 8 5 (bm 9 511) ?_
  refine done_ (done_of HT_.out (by kernel_rfl)) ?_
  clear HT_ HW_ hHeld
  have y5 := (HS.out.cell 2 rfl 5).trans (show (PSC p : Array Value)[5]? = some (.int .i64 p.f5) from rfl)
  go_wp2
  go_loopw [6, 21] (fun v6 v21 w' => ∃ (y : Nat) (ab rw_ : ByteArray) (px : List Int), v6 = .string ab ∧ v21 = .int .i64 (y : Int) ∧ y ≤ p.f5.toNat ∧ Aside0 (QInv k s p nI gb gc gP n er pix' raw' M w0 (p.f5.toNat) y ab rw_ px w')) (fun _ v _ => p.f5.toNat - (intOf v).toNat)
  case atStart => exact ⟨0, _, raw, pix, rfl, rfl, Nat.zero_le _, ⟨HS.out, HF.out, HN.out⟩⟩
  case round =>
    clear HS HF HN y5
    obtain ⟨y, ab, rw_, px, rfl, rfl, hy, HI⟩ := hrel
    have HS := Aside0.mk HI.out.1
    have HF := Aside0.mk HI.out.2.1
    have HN := Aside0.mk HI.out.2.2
    clear HI
    by_cases hlt : y < p.f5.toNat
    · have HLT := Aside0.mk hlt
      have HSM0 := Aside0.mk (show (y : Int) < p.f5 by have := HSM.out; omega)
      have q0 : decide ((y : Int) < p.f5) = true := decide_eq_true HSM0.out
      clear hlt hy
      obtain ⟨m, hm⟩ : ∃ m, p.f5.toNat - y = m + 1 := ⟨p.f5.toNat - y - 1, by have := HLT.out; omega⟩
      have hf := HF.out
      rw [hm, px_rows] at hf
      have HM1 := Aside0.mk (show p.f5.toNat - (y + 1) = m by omega)
      clear HF hm
      have HW := Aside0.mk (show wrap64 ((y : Int) + 1) = ((y + 1 : Nat) : Int) by have := HSM.out; have := HSM0.out; unfold wrap64; omega)
      obtain ⟨hi, hhi⟩ : ∃ z, wrap64 (1 + nI) = z := ⟨_, rfl⟩
      rw [hhi] at hf
      by_cases a0 : 0 < rw_.size
      rotate_left
      · rw [if_neg a0] at hf; cases hf
      rw [if_pos a0] at hf
      by_cases a1 : 1 ≤ hi
      rotate_left
      · rw [if_neg a1] at hf; cases hf
      rw [if_pos a1] at hf
      by_cases a2 : hi ≤ (rw_.size : Int)
      rotate_left
      · rw [if_neg a2] at hf; cases hf
      rw [if_pos a2] at hf
      obtain ⟨b, hb_, hf1⟩ := Option.bind_eq_some_iff.1 hf
      clear hf
      obtain ⟨⟨ln, e1⟩, hun, hf2⟩ := Option.bind_eq_some_iff.1 hf1
      clear hf1
      have HB1 := Aside0.mk hb_
      have HU := Aside0.mk hun
      have HF := Aside0.mk hf2
      clear hb_ hun hf2
      have z0 : (IntKind.i64.wrap (1 + nI)) = hi := (i64_w _).trans hhi
      have p0 : (0 < rw_.size) = True := eq_true a0
      have p1 : decide (0 < rw_.size) = true := decide_eq_true a0
      have p2 : (0 < (rw_.size : Int)) = True := eq_true (by omega)
      have p3 : decide (0 < (rw_.size : Int)) = true := decide_eq_true (by omega)
      have hx_ : ∀ h : 0 < rw_.size, ((rw_[0]'h).toNat : Int) = bt rw_ 0 := bt_at rw_ 0
      have g1 := eq_true a1
      have g2 := eq_true a2
      have b1 : decide (1 ≤ hi) = true := decide_eq_true a1
      have b2 : decide (hi ≤ (rw_.size : Int)) = true := decide_eq_true a2
      have g3 : (0 ≤ hi) = True := eq_true (by omega)
      have b3 : decide (0 ≤ hi) = true := decide_eq_true (by omega)
      have HA := Aside0.mk (⟨a0, a1, a2⟩ : 0 < rw_.size ∧ 1 ≤ hi ∧ hi ≤ (rw_.size : Int))
      clear a0 a1 a2
      go_wp2
      have n0_ := Aside0.mk HS.out.drew
      clear HS
      have HS := n0_
      clear n0_
      refine start_ (n := 26) (S := fun w' => w'.cell? ⟨gc, 0, none⟩ = some (.int .i64 s.W) ∧ w'.cell? ⟨gc, 1, none⟩ = some (.int .i64 s.H) ∧ w'.cell? ⟨gc, 2, none⟩ = some (.int .i64 s.D) ∧ w'.cell? ⟨gc, 3, none⟩ = some (.int .i64 s.C) ∧ w'.cell? ⟨gc, 4, none⟩ = some (.int .i64 s.L) ∧ w'.cell? ⟨gc, 9, none⟩ = some (.string rw_)) (ds := []) (bm 26 0) (by kernel_rfl) rfl rfl ⟨(HS.out.cell 0 rfl 0).trans rfl, (HS.out.cell 0 rfl 1).trans rfl, (HS.out.cell 0 rfl 2).trans rfl, (HS.out.cell 0 rfl 3).trans rfl, (HS.out.cell 0 rfl 4).trans rfl, (HS.out.cell 0 rfl 9).trans rfl⟩ (fun hHeld => ?_)
      refine with_tabW px_pass.tab6 px_pass.bits6 (fun HT_ HW_ => ?_)
      generalize World.drew _ = w3 at HS  hHeld ⊢
      refine zp 0 25 (bm 26 1) ?_
      refine zp 1 26 (bm 26 3) ?_
      refine zp 2 27 (bm 26 7) ?_
      refine zp 3 28 (bm 26 15) ?_
      refine zt 4 29 (bm 26 31) rfl (by rintro w' ⟨s0_, s1_, s2_, s3_, s4_, s5_⟩; go_simp; with_reducible rfl) ?_
      refine zp 6 31 (bm 26 95) ?_
      refine zp 7 32 (bm 26 223) ?_
      refine zp 8 33 (bm 26 479) ?_
      refine zt 9 34 (bm 26 991) rfl (by rintro w' ⟨s0_, s1_, s2_, s3_, s4_, s5_⟩; go_simp; with_reducible rfl) ?_
      refine zp 10 35 (bm 26 2015) ?_
      refine zp 11 36 (bm 26 4063) ?_
      refine zp 12 37 (bm 26 8159) ?_
      refine zp 13 38 (bm 26 16351) ?_
      refine zp 14 39 (bm 26 32735) ?_
      refine zt 15 40 (bm 26 65503) rfl (by rintro w' ⟨s0_, s1_, s2_, s3_, s4_, s5_⟩; go_simp; with_reducible rfl) ?_
      refine zp 16 41 (bm 26 131039) ?_
      refine zp 17 42 (bm 26 262111) ?_
      refine zp 18 43 (bm 26 524255) ?_
      refine zp 19 44 (bm 26 1048543) ?_
      refine one_ (i := 5) (N := some 30) (bm 26 1048575) rfl rfl (one_of HT_.out (by kernel_rfl)) (by decide) (fun K hK => ?_)
      refine goes_ Try.func42 (by kernel_rfl) rfl #[.agg #[.int .i64 s.W, .int .i64 s.H, .int .i64 s.D, .int .i64 s.C, .int .i64 s.L]] (by rfl) rfl rfl (by (try simp only [List.map_toArray, List.map_cons, List.map_nil]); first | done | rfl) ?_
      with_reducible refine (pixel_bpp.calls k s.W s.H s.D s.C s.L b _ HB1.out).mono ?_
      rintro e w_ ⟨rfl, hb⟩
      refine ⟨_, rfl, ?_⟩
      have n0_ := Aside0.mk (HS.out.step hb)
      clear HS hb
      have HS := n0_
      clear n0_
      refine hK.out _ _ ⟨(HS.out.cell 0 rfl 0).trans rfl, (HS.out.cell 0 rfl 1).trans rfl, (HS.out.cell 0 rfl 2).trans rfl, (HS.out.cell 0 rfl 3).trans rfl, (HS.out.cell 0 rfl 4).trans rfl, (HS.out.cell 0 rfl 9).trans rfl⟩ (fun hHeld => ?_)
      clear hK K
      refine norm_ (a' := ?_) ?_ ?_
      rotate_left
      · show Act.put _ (some 30) _ = _
        simp only [Act.put, zq1, zq2, zq3, i64_w, i32_w]
        rfl
      refine one_ (i := 20) (N := some 45) (bm 26 2097151) rfl rfl (one_of HT_.out (by kernel_rfl)) (by decide) (fun K hK => ?_)
      refine goes_ Try.func41 (by kernel_rfl) rfl #[.int .i64 b, .int .i64 (wrap64 (bt rw_ 0)), .string (rw_.extract 1 hi.toNat), .string ab] (by rfl) rfl rfl (by (try simp only [List.map_toArray, List.map_cons, List.map_nil]); first | done | rfl) ?_
      with_reducible refine (filter_Undo.calls k b (wrap64 (bt rw_ 0)) (rw_.extract 1 hi.toNat) ab ln e1 _ HU.out).mono ?_
      rintro e w_ ⟨rfl, hb⟩
      refine ⟨_, rfl, ?_⟩
      have n0_ := Aside0.mk (HS.out.step hb)
      clear HS hb
      have HS := n0_
      clear n0_
      refine hK.out _ _ ⟨(HS.out.cell 0 rfl 0).trans rfl, (HS.out.cell 0 rfl 1).trans rfl, (HS.out.cell 0 rfl 2).trans rfl, (HS.out.cell 0 rfl 3).trans rfl, (HS.out.cell 0 rfl 4).trans rfl, (HS.out.cell 0 rfl 9).trans rfl⟩ (fun hHeld => ?_)
      clear hK K
      refine norm_ (a' := ?_) ?_ ?_
      rotate_left
      · show Act.put _ (some 45) _ = _
        simp only [Act.put, zq1, zq2, zq3, i64_w, i32_w]
        rfl
      refine zp 21 24 (bm 26 4194303) ?_
      refine zp 22 46 (bm 26 8388607) ?_
      refine zp 23 47 (bm 26 16777215) ?_
      refine zp 24 8 (bm 26 33554431) ?_
      refine zp 25 9 (bm 26 67108863) ?_
      refine done_ (done_of HT_.out (by kernel_rfl)) ?_
      clear HT_ HW_ hHeld
      clear p0 p1 p2 p3 hx_ b1 b2 b3 g1 g2 g3 q0
      by_cases he : e1 = 0
      · skip
        have HF2 := Aside0.mk ((if_pos he).symm.trans HF.out)
        have q1 : (e1 != 0) = false := bne_eq_false_iff_eq.mpr he
        clear HF he
        obtain ⟨⟨e2, px2⟩, hrow, hf1⟩ := Option.bind_eq_some_iff.1 HF2.out
        have HROW := Aside0.mk hrow
        have HF := Aside0.mk hf1
        clear hrow hf1 HF2
        have y0 := (HS.out.cell 2 rfl 0).trans (show (PSC p : Array Value)[0]? = some (.int .i64 p.f0) from rfl)
        have y1 := (HS.out.cell 2 rfl 1).trans (show (PSC p : Array Value)[1]? = some (.int .i64 p.f1) from rfl)
        have y2 := (HS.out.cell 2 rfl 2).trans (show (PSC p : Array Value)[2]? = some (.int .i64 p.f2) from rfl)
        have y3 := (HS.out.cell 2 rfl 3).trans (show (PSC p : Array Value)[3]? = some (.int .i64 p.f3) from rfl)
        have y4 := (HS.out.cell 2 rfl 4).trans (show (PSC p : Array Value)[4]? = some (.int .i64 p.f4) from rfl)
        have y5 := (HS.out.cell 2 rfl 5).trans (show (PSC p : Array Value)[5]? = some (.int .i64 p.f5) from rfl)
        by_cases he2 : e2 = 0
        · skip
          have HF2 := Aside0.mk ((if_pos he2).symm.trans HF.out)
          have q2 : (e2 != 0) = false := bne_eq_false_iff_eq.mpr he2
          clear HF he2
          have g1 : (hi ≤ (rw_.size : Int)) = True := eq_true HA.out.2.2
          have b1 : decide (hi ≤ (rw_.size : Int)) = true := decide_eq_true HA.out.2.2
          have g3 : (0 ≤ hi) = True := eq_true (by have := HA.out; omega)
          have b3 : decide (0 ≤ hi) = true := decide_eq_true (by have := HA.out; omega)
          go_upto_region 12 with (go_at_call 43; (with_reducible refine (px_row_calls k s p (y : Int) ln rw_ px px2 n e2 gc gP ((gb, PSC p, 53) :: M) w0 _ HS.out HN.out HROW.out).mono ?_); rintro e w5 ⟨rfl, hs_, hn_⟩; have n0_ := Aside0.mk hs_; have n1_ := Aside0.mk hn_; clear HS HN hs_ hn_ y0 y1 y2 y3 y4 y5; have HS := n0_; have HN := n1_; clear n0_ n1_)
          have y9 := (HS.out.cell 0 rfl 9).trans (show (CV s gP n rw_)[9]? = some (.string rw_) from rfl)
          have f9 := HS.out.fz 0 rfl 9
          go_wp2
          go_roundw
          case rel => exact ⟨y + 1, ln, rw_.extract hi.toNat rw_.size, px2, rfl, by first | rfl | (rw [HW.out]) | go_num, HLT.out, ⟨HS.out.set 0 rfl 9 (.string (rw_.extract hi.toNat rw_.size)), by rw [HM1.out]; exact HF2.out, HN.out⟩⟩
          case measure => exact mea_px HLT.out HW.out
        · have h3 : some (e2, px2, rw_) = some (er, pix', raw') := (if_neg he2).symm.trans HF.out
          have q2 : (e2 != 0) = true := bne_iff_ne.mpr he2
          obtain ⟨rfl, h4⟩ := Prod.mk.inj (Option.some.inj h3)
          obtain ⟨rfl, rfl⟩ := Prod.mk.inj h4
          clear h3 HF he2
          go_wp2_with (go_at_call 43; (with_reducible refine (px_row_calls k s p (y : Int) ln rw_ px px2 n e2 gc gP ((gb, PSC p, 53) :: M) w0 _ HS.out HN.out HROW.out).mono ?_); rintro e w5 ⟨rfl, hs_, hn_⟩; have n0_ := Aside0.mk hs_; have n1_ := Aside0.mk hn_; clear HS HN hs_ hn_ y0 y1 y2 y3 y4 y5; have HS := n0_; have HN := n1_; clear n0_ n1_)
          go_ret
          exact ⟨rfl, sv_tail3 HS.out, HN.out⟩
      · have h3 : some (e1, px, rw_) = some (er, pix', raw') := (if_neg he).symm.trans HF.out
        have q1 : (e1 != 0) = true := bne_iff_ne.mpr he
        obtain ⟨rfl, h4⟩ := Prod.mk.inj (Option.some.inj h3)
        obtain ⟨rfl, rfl⟩ := Prod.mk.inj h4
        clear h3 HF he
        go_wp2
        go_ret
        exact ⟨rfl, sv_tail3 HS.out, HN.out⟩
    · obtain rfl : y = p.f5.toNat := by omega
      have q0 : decide (((p.f5.toNat : Nat) : Int) < p.f5) = false := decide_eq_false (by have := HSM.out; omega)
      have h3 := HF.out
      rw [Nat.sub_self, px_rows] at h3
      obtain ⟨rfl, h4⟩ := Prod.mk.inj (Option.some.inj h3)
      obtain ⟨rfl, rfl⟩ := Prod.mk.inj h4
      clear h3 HF hlt hy
      go_wp2
      go_ret
      exact ⟨rfl, sv_tail3 HS.out, HN.out⟩
def IInv (k : Nat) (s : PSh) (gc gP gr gs n : Nat) (e3 : Int) (pf : List Int) (ps : List S53) (adl : Addr) (col : Nat) (cl : Array Value) (w : World) (i : Nat) (rw_ : ByteArray) (px : List Int) (w' : World) : Prop :=
  Sv w [(gc, CV s gP n rw_, 49), (gP, PX px, 5), (adl.block, cl, 53), (gr, (#[.int .i64 0, .int .i64 0, .string (⟨#[]⟩ : ByteArray)] : Array Value), 23), (gs, SHC s, 31)] w' ∧ Kd.R k53 53 w' w.heap.size (fun _ => True) (.slice (some adl) ps.length col) ps ∧ px_all k s (ps.drop i) rw_ px = some (e3, pf) ∧ px.length = n
theorem im_elem (l : List S53) (i : Nat) (x : S53) (h : i < l.length) (hx : rd_T53 l (i : Int) = x) : l.drop i = x :: l.drop (i + 1) := by
  subst hx
  unfold rd_T53
  rw [Int.toNat_natCast, List.drop_eq_getElem_cons h, List.getD_eq_getElem?_getD, List.getElem?_eq_getElem h]
  rfl
def pixel_Image.T9 : Bool × List (List Nat × List Nat) := (true, [([], []), ([], []), ([1], [1]), ([2], [2]), ([3], [3]), ([], []), ([5], [5]), ([6], [6]), ([4, 7], [4, 7]), ([8, 8], [8]), ([], []), ([0, 9, 10], [0, 9, 10]), ([11], [11]), ([12, 0, 1, 2, 3, 4, 5, 6, 7, 8, 9, 10, 11, 12], [12])])
def pixel_Image.B9 : List Nat := [0, 0, 2, 6, 14, 0, 32, 96, 254, 510, 0, 2047, 4095, 8191]
theorem pixel_Image.tab9 : rtab .any (opsOf Try.f11 9) = pixel_Image.T9 := by kernel_rfl
theorem pixel_Image.bits9 : waitsOk pixel_Image.T9.2 pixel_Image.B9 = true := by kernel_rfl
def pixel_Image.T17 : Bool × List (List Nat × List Nat) := (true, [([], []), ([0], [0]), ([1], [1]), ([], []), ([3], [3]), ([4], [4]), ([], []), ([6], [6]), ([7], [7]), ([8], [8]), ([9], [9]), ([2, 5, 10], [2, 5, 10]), ([11, 0, 1, 2, 3, 4, 5, 6, 7, 8, 9, 10, 11], [11]), ([12, 0, 1, 2, 3, 4, 5, 6, 7, 8, 9, 10, 11, 12], [])])
def pixel_Image.B17 : List Nat := [0, 1, 3, 0, 8, 24, 0, 64, 192, 448, 960, 2047, 4095, 8191]
theorem pixel_Image.tab17 : rtab .any (opsOf Try.f11 17) = pixel_Image.T17 := by kernel_rfl
theorem pixel_Image.bits17 : waitsOk pixel_Image.T17.2 pixel_Image.B17 = true := by kernel_rfl
set_option maxHeartbeats 40000000 in
set_option maxRecDepth 100000 in
theorem px_image_calls (k : Nat) (s : PSh) (raw out : ByteArray) (er : Int) (w : World) (hf : px_image k s raw = some (er, out)) :
    Calls Try.prog 11 #[.agg #[.int .i64 s.W, .int .i64 s.H, .int .i64 s.D, .int .i64 s.C, .int .i64 s.L, .string s.pal, .string s.tr, .bool s.ht], .string raw] w fun e w' => e = .returned (.tuple #[.agg (RS er s.W s.H out), .int .i64 er]) ∧ Below w.heap.size w w' := by
  unfold px_image at hf
  obtain ⟨e0, h0, hf1⟩ := Option.bind_eq_some_iff.1 hf
  clear hf
  have H0 := Aside0.mk h0
  have HF := Aside0.mk hf1
  have HS := Aside0.mk (Sv.new w)
  clear h0 hf1
  go_enter Try.func11, Try.ntmps11
  go_upto_region 1 with (first | ((with_reducible refine gate_dst (N := 2) rfl ?_); refine box_event ?hg (N := 2) ?hd (cs := SHC s) (t := 31) ?hr ?_; (case hd => rfl); (case hg => rfl); (case hr => first | (go_simp; done) | (go_simp; rfl)); intro gs hg w1 hbox hb; have n0_ := Aside0.mk (HS.out.box hb hg hbox); clear HS hb hg hbox; have HS := n0_; clear n0_) | ((with_reducible refine gate_dst (N := 4) rfl ?_); refine box_event ?hg (N := 4) ?hd (cs := #[.int .i64 0, .int .i64 0, .string (⟨#[]⟩ : ByteArray)]) (t := 23) ?hr ?_; (case hd => rfl); (case hg => rfl); (case hr => first | (go_simp; done) | (go_simp; rfl)); intro gr hg w2 hbox hb; have n0_ := Aside0.mk (HS.out.box hb hg hbox); clear HS hb hg hbox; have HS := n0_; clear n0_))
  have y0 := (HS.out.cell 1 rfl 0).trans (show (SHC s : Array Value)[0]? = some (.int .i64 s.W) from rfl)
  have y1 := (HS.out.cell 1 rfl 1).trans (show (SHC s : Array Value)[1]? = some (.int .i64 s.H) from rfl)
  have y2 := (HS.out.cell 1 rfl 2).trans (show (SHC s : Array Value)[2]? = some (.int .i64 s.D) from rfl)
  have y3 := (HS.out.cell 1 rfl 3).trans (show (SHC s : Array Value)[3]? = some (.int .i64 s.C) from rfl)
  have y4 := (HS.out.cell 1 rfl 4).trans (show (SHC s : Array Value)[4]? = some (.int .i64 s.L) from rfl)
  have y5 := (HS.out.cell 1 rfl 5).trans (show (SHC s : Array Value)[5]? = some (.string s.pal) from rfl)
  have y6 := (HS.out.cell 1 rfl 6).trans (show (SHC s : Array Value)[6]? = some (.string s.tr) from rfl)
  have y7 := (HS.out.cell 1 rfl 7).trans (show (SHC s : Array Value)[7]? = some (.bool s.ht) from rfl)
  have c0 := (HS.out.cell 0 rfl 0).trans (show (#[.int .i64 0, .int .i64 0, .string (⟨#[]⟩ : ByteArray)] : Array Value)[0]? = some (.int .i64 0) from rfl)
  have c1 := (HS.out.cell 0 rfl 1).trans (show (#[.int .i64 0, .int .i64 0, .string (⟨#[]⟩ : ByteArray)] : Array Value)[1]? = some (.int .i64 0) from rfl)
  have c2 := (HS.out.cell 0 rfl 2).trans (show (#[.int .i64 0, .int .i64 0, .string (⟨#[]⟩ : ByteArray)] : Array Value)[2]? = some (.string (⟨#[]⟩ : ByteArray)) from rfl)
  have f0 := HS.out.fz 0 rfl 0
  have f1 := HS.out.fz 0 rfl 1
  have f2 := HS.out.fz 0 rfl 2
  by_cases he : e0 = 0
  rotate_left
  · have h3 : some (e0, (⟨#[]⟩ : ByteArray)) = some (er, out) := (if_neg he).symm.trans HF.out
    have q1 : (e0 != 0) = true := bne_iff_ne.mpr he
    obtain ⟨rfl, rfl⟩ := Prod.mk.inj (Option.some.inj h3)
    clear h3 HF
    go_wp2_with (go_at_call 18; (with_reducible refine (head_Right.calls k s.W s.H s.D s.C s.L e0 _ H0.out).mono ?_); rintro e w_ ⟨rfl, hb⟩; have n0_ := Aside0.mk (HS.out.step hb); clear HS hb; have HS := n0_; clear n0_; clear y0 y1 y2 y3 y4 y5 y6 y7 c0 c1 c2 f0 f1 f2; have y0 := (HS.out.cell 1 rfl 0).trans (show (SHC s : Array Value)[0]? = some (.int .i64 s.W) from rfl); have y1 := (HS.out.cell 1 rfl 1).trans (show (SHC s : Array Value)[1]? = some (.int .i64 s.H) from rfl); have y2 := (HS.out.cell 1 rfl 2).trans (show (SHC s : Array Value)[2]? = some (.int .i64 s.D) from rfl); have y3 := (HS.out.cell 1 rfl 3).trans (show (SHC s : Array Value)[3]? = some (.int .i64 s.C) from rfl); have y4 := (HS.out.cell 1 rfl 4).trans (show (SHC s : Array Value)[4]? = some (.int .i64 s.L) from rfl); have y5 := (HS.out.cell 1 rfl 5).trans (show (SHC s : Array Value)[5]? = some (.string s.pal) from rfl); have y6 := (HS.out.cell 1 rfl 6).trans (show (SHC s : Array Value)[6]? = some (.string s.tr) from rfl); have y7 := (HS.out.cell 1 rfl 7).trans (show (SHC s : Array Value)[7]? = some (.bool s.ht) from rfl); have c0 := (HS.out.cell 0 rfl 0).trans (show (#[.int .i64 0, .int .i64 0, .string (⟨#[]⟩ : ByteArray)] : Array Value)[0]? = some (.int .i64 0) from rfl); have c1 := (HS.out.cell 0 rfl 1).trans (show (#[.int .i64 0, .int .i64 0, .string (⟨#[]⟩ : ByteArray)] : Array Value)[1]? = some (.int .i64 0) from rfl); have c2 := (HS.out.cell 0 rfl 2).trans (show (#[.int .i64 0, .int .i64 0, .string (⟨#[]⟩ : ByteArray)] : Array Value)[2]? = some (.string (⟨#[]⟩ : ByteArray)) from rfl); have f0 := HS.out.fz 0 rfl 0; have f1 := HS.out.fz 0 rfl 1; have f2 := HS.out.fz 0 rfl 2)
    refine bodyPost_ret (results_ct rfl _ _ gr 23 #[.int .i64 0, .int .i64 0, .string (⟨#[]⟩ : ByteArray)] (0, 0) _ rfl (Sv.at (((HS.out.set 0 rfl 0 (.int .i64 0)).set 0 rfl 1 (.int .i64 0)).set 0 rfl 2 (.string (⟨#[]⟩ : ByteArray))) 0 rfl) Try.underlying23 rfl (by kernel_rfl)) rfl ?_
    exact ⟨by rw [RS, if_neg (by first | assumption | decide)]; rfl, (((HS.out.set 0 rfl 0 (.int .i64 0)).set 0 rfl 1 (.int .i64 0)).set 0 rfl 2 (.string (⟨#[]⟩ : ByteArray))).below⟩
  have q1 : (e0 != 0) = false := bne_eq_false_iff_eq.mpr he
  have hf := (if_pos he).symm.trans HF.out
  obtain ⟨n0, h1, hf1⟩ := Option.bind_eq_some_iff.1 hf
  have H1 := Aside0.mk h1
  have HG := Aside0.mk hf1
  clear hf HF h1 hf1 he
  by_cases hl : (raw.size : Int) < n0
  · have h3 : some ((30 : Int), (⟨#[]⟩ : ByteArray)) = some (er, out) := (if_pos hl).symm.trans HG.out
    have q2 : decide ((raw.size : Int) < n0) = true := decide_eq_true hl
    obtain ⟨rfl, rfl⟩ := Prod.mk.inj (Option.some.inj h3)
    clear h3 HG
    go_wp2_with (first | (go_at_call 18; (with_reducible refine (head_Right.calls k s.W s.H s.D s.C s.L e0 _ H0.out).mono ?_); rintro e w_ ⟨rfl, hb⟩; have n0_ := Aside0.mk (HS.out.step hb); clear HS hb; have HS := n0_; clear n0_; clear y0 y1 y2 y3 y4 y5 y6 y7 c0 c1 c2 f0 f1 f2; have y0 := (HS.out.cell 1 rfl 0).trans (show (SHC s : Array Value)[0]? = some (.int .i64 s.W) from rfl); have y1 := (HS.out.cell 1 rfl 1).trans (show (SHC s : Array Value)[1]? = some (.int .i64 s.H) from rfl); have y2 := (HS.out.cell 1 rfl 2).trans (show (SHC s : Array Value)[2]? = some (.int .i64 s.D) from rfl); have y3 := (HS.out.cell 1 rfl 3).trans (show (SHC s : Array Value)[3]? = some (.int .i64 s.C) from rfl); have y4 := (HS.out.cell 1 rfl 4).trans (show (SHC s : Array Value)[4]? = some (.int .i64 s.L) from rfl); have y5 := (HS.out.cell 1 rfl 5).trans (show (SHC s : Array Value)[5]? = some (.string s.pal) from rfl); have y6 := (HS.out.cell 1 rfl 6).trans (show (SHC s : Array Value)[6]? = some (.string s.tr) from rfl); have y7 := (HS.out.cell 1 rfl 7).trans (show (SHC s : Array Value)[7]? = some (.bool s.ht) from rfl); have c0 := (HS.out.cell 0 rfl 0).trans (show (#[.int .i64 0, .int .i64 0, .string (⟨#[]⟩ : ByteArray)] : Array Value)[0]? = some (.int .i64 0) from rfl); have c1 := (HS.out.cell 0 rfl 1).trans (show (#[.int .i64 0, .int .i64 0, .string (⟨#[]⟩ : ByteArray)] : Array Value)[1]? = some (.int .i64 0) from rfl); have c2 := (HS.out.cell 0 rfl 2).trans (show (#[.int .i64 0, .int .i64 0, .string (⟨#[]⟩ : ByteArray)] : Array Value)[2]? = some (.string (⟨#[]⟩ : ByteArray)) from rfl); have f0 := HS.out.fz 0 rfl 0; have f1 := HS.out.fz 0 rfl 1; have f2 := HS.out.fz 0 rfl 2) | (go_at_call 21; (with_reducible refine (lace_Size.calls k s.W s.H s.D s.C s.L n0 _ H1.out).mono ?_); rintro e w_ ⟨rfl, hb⟩; have n0_ := Aside0.mk (HS.out.step hb); clear HS hb; have HS := n0_; clear n0_; clear y0 y1 y2 y3 y4 y5 y6 y7 c0 c1 c2 f0 f1 f2; have y0 := (HS.out.cell 1 rfl 0).trans (show (SHC s : Array Value)[0]? = some (.int .i64 s.W) from rfl); have y1 := (HS.out.cell 1 rfl 1).trans (show (SHC s : Array Value)[1]? = some (.int .i64 s.H) from rfl); have y2 := (HS.out.cell 1 rfl 2).trans (show (SHC s : Array Value)[2]? = some (.int .i64 s.D) from rfl); have y3 := (HS.out.cell 1 rfl 3).trans (show (SHC s : Array Value)[3]? = some (.int .i64 s.C) from rfl); have y4 := (HS.out.cell 1 rfl 4).trans (show (SHC s : Array Value)[4]? = some (.int .i64 s.L) from rfl); have y5 := (HS.out.cell 1 rfl 5).trans (show (SHC s : Array Value)[5]? = some (.string s.pal) from rfl); have y6 := (HS.out.cell 1 rfl 6).trans (show (SHC s : Array Value)[6]? = some (.string s.tr) from rfl); have y7 := (HS.out.cell 1 rfl 7).trans (show (SHC s : Array Value)[7]? = some (.bool s.ht) from rfl); have c0 := (HS.out.cell 0 rfl 0).trans (show (#[.int .i64 0, .int .i64 0, .string (⟨#[]⟩ : ByteArray)] : Array Value)[0]? = some (.int .i64 0) from rfl); have c1 := (HS.out.cell 0 rfl 1).trans (show (#[.int .i64 0, .int .i64 0, .string (⟨#[]⟩ : ByteArray)] : Array Value)[1]? = some (.int .i64 0) from rfl); have c2 := (HS.out.cell 0 rfl 2).trans (show (#[.int .i64 0, .int .i64 0, .string (⟨#[]⟩ : ByteArray)] : Array Value)[2]? = some (.string (⟨#[]⟩ : ByteArray)) from rfl); have f0 := HS.out.fz 0 rfl 0; have f1 := HS.out.fz 0 rfl 1; have f2 := HS.out.fz 0 rfl 2))
    refine bodyPost_ret (results_ct rfl _ _ gr 23 #[.int .i64 0, .int .i64 0, .string (⟨#[]⟩ : ByteArray)] (0, 0) _ rfl (Sv.at (((HS.out.set 0 rfl 0 (.int .i64 0)).set 0 rfl 1 (.int .i64 0)).set 0 rfl 2 (.string (⟨#[]⟩ : ByteArray))) 0 rfl) Try.underlying23 rfl (by kernel_rfl)) rfl ?_
    exact ⟨by rw [RS, if_neg (by first | assumption | decide)]; rfl, (((HS.out.set 0 rfl 0 (.int .i64 0)).set 0 rfl 1 (.int .i64 0)).set 0 rfl 2 (.string (⟨#[]⟩ : ByteArray))).below⟩
  have q2 : decide ((raw.size : Int) < n0) = false := decide_eq_false hl
  have hf := (if_neg hl).symm.trans HG.out
  clear HG
  by_cases hl2 : n0 < (raw.size : Int)
  · have h3 : some ((31 : Int), (⟨#[]⟩ : ByteArray)) = some (er, out) := (if_pos hl2).symm.trans hf
    have q3 : decide (n0 < (raw.size : Int)) = true := decide_eq_true hl2
    obtain ⟨rfl, rfl⟩ := Prod.mk.inj (Option.some.inj h3)
    clear h3 hf
    go_wp2_with (first | (go_at_call 18; (with_reducible refine (head_Right.calls k s.W s.H s.D s.C s.L e0 _ H0.out).mono ?_); rintro e w_ ⟨rfl, hb⟩; have n0_ := Aside0.mk (HS.out.step hb); clear HS hb; have HS := n0_; clear n0_; clear y0 y1 y2 y3 y4 y5 y6 y7 c0 c1 c2 f0 f1 f2; have y0 := (HS.out.cell 1 rfl 0).trans (show (SHC s : Array Value)[0]? = some (.int .i64 s.W) from rfl); have y1 := (HS.out.cell 1 rfl 1).trans (show (SHC s : Array Value)[1]? = some (.int .i64 s.H) from rfl); have y2 := (HS.out.cell 1 rfl 2).trans (show (SHC s : Array Value)[2]? = some (.int .i64 s.D) from rfl); have y3 := (HS.out.cell 1 rfl 3).trans (show (SHC s : Array Value)[3]? = some (.int .i64 s.C) from rfl); have y4 := (HS.out.cell 1 rfl 4).trans (show (SHC s : Array Value)[4]? = some (.int .i64 s.L) from rfl); have y5 := (HS.out.cell 1 rfl 5).trans (show (SHC s : Array Value)[5]? = some (.string s.pal) from rfl); have y6 := (HS.out.cell 1 rfl 6).trans (show (SHC s : Array Value)[6]? = some (.string s.tr) from rfl); have y7 := (HS.out.cell 1 rfl 7).trans (show (SHC s : Array Value)[7]? = some (.bool s.ht) from rfl); have c0 := (HS.out.cell 0 rfl 0).trans (show (#[.int .i64 0, .int .i64 0, .string (⟨#[]⟩ : ByteArray)] : Array Value)[0]? = some (.int .i64 0) from rfl); have c1 := (HS.out.cell 0 rfl 1).trans (show (#[.int .i64 0, .int .i64 0, .string (⟨#[]⟩ : ByteArray)] : Array Value)[1]? = some (.int .i64 0) from rfl); have c2 := (HS.out.cell 0 rfl 2).trans (show (#[.int .i64 0, .int .i64 0, .string (⟨#[]⟩ : ByteArray)] : Array Value)[2]? = some (.string (⟨#[]⟩ : ByteArray)) from rfl); have f0 := HS.out.fz 0 rfl 0; have f1 := HS.out.fz 0 rfl 1; have f2 := HS.out.fz 0 rfl 2) | (go_at_call 21; (with_reducible refine (lace_Size.calls k s.W s.H s.D s.C s.L n0 _ H1.out).mono ?_); rintro e w_ ⟨rfl, hb⟩; have n0_ := Aside0.mk (HS.out.step hb); clear HS hb; have HS := n0_; clear n0_; clear y0 y1 y2 y3 y4 y5 y6 y7 c0 c1 c2 f0 f1 f2; have y0 := (HS.out.cell 1 rfl 0).trans (show (SHC s : Array Value)[0]? = some (.int .i64 s.W) from rfl); have y1 := (HS.out.cell 1 rfl 1).trans (show (SHC s : Array Value)[1]? = some (.int .i64 s.H) from rfl); have y2 := (HS.out.cell 1 rfl 2).trans (show (SHC s : Array Value)[2]? = some (.int .i64 s.D) from rfl); have y3 := (HS.out.cell 1 rfl 3).trans (show (SHC s : Array Value)[3]? = some (.int .i64 s.C) from rfl); have y4 := (HS.out.cell 1 rfl 4).trans (show (SHC s : Array Value)[4]? = some (.int .i64 s.L) from rfl); have y5 := (HS.out.cell 1 rfl 5).trans (show (SHC s : Array Value)[5]? = some (.string s.pal) from rfl); have y6 := (HS.out.cell 1 rfl 6).trans (show (SHC s : Array Value)[6]? = some (.string s.tr) from rfl); have y7 := (HS.out.cell 1 rfl 7).trans (show (SHC s : Array Value)[7]? = some (.bool s.ht) from rfl); have c0 := (HS.out.cell 0 rfl 0).trans (show (#[.int .i64 0, .int .i64 0, .string (⟨#[]⟩ : ByteArray)] : Array Value)[0]? = some (.int .i64 0) from rfl); have c1 := (HS.out.cell 0 rfl 1).trans (show (#[.int .i64 0, .int .i64 0, .string (⟨#[]⟩ : ByteArray)] : Array Value)[1]? = some (.int .i64 0) from rfl); have c2 := (HS.out.cell 0 rfl 2).trans (show (#[.int .i64 0, .int .i64 0, .string (⟨#[]⟩ : ByteArray)] : Array Value)[2]? = some (.string (⟨#[]⟩ : ByteArray)) from rfl); have f0 := HS.out.fz 0 rfl 0; have f1 := HS.out.fz 0 rfl 1; have f2 := HS.out.fz 0 rfl 2))
    refine bodyPost_ret (results_ct rfl _ _ gr 23 #[.int .i64 0, .int .i64 0, .string (⟨#[]⟩ : ByteArray)] (0, 0) _ rfl (Sv.at (((HS.out.set 0 rfl 0 (.int .i64 0)).set 0 rfl 1 (.int .i64 0)).set 0 rfl 2 (.string (⟨#[]⟩ : ByteArray))) 0 rfl) Try.underlying23 rfl (by kernel_rfl)) rfl ?_
    exact ⟨by rw [RS, if_neg (by first | assumption | decide)]; rfl, (((HS.out.set 0 rfl 0 (.int .i64 0)).set 0 rfl 1 (.int .i64 0)).set 0 rfl 2 (.string (⟨#[]⟩ : ByteArray))).below⟩
  have q3 : decide (n0 < (raw.size : Int)) = false := decide_eq_false hl2
  have hf2 := (if_neg hl2).symm.trans hf
  clear hf hl hl2
  by_cases hz : 0 ≤ wrap64 (wrap64 (8 * s.W) * s.H) ∧ wrap64 (wrap64 (8 * s.W) * s.H) ≤ 281474976710656
  rotate_left
  · rw [if_neg hz] at hf2; cases hf2
  rw [if_pos hz] at hf2
  obtain ⟨ps, h2, hf3⟩ := Option.bind_eq_some_iff.1 hf2
  clear hf2
  by_cases hp : 0 < ps.length
  rotate_left
  · rw [if_neg hp] at hf3; cases hf3
  rw [if_pos hp] at hf3
  obtain ⟨⟨e3, pf⟩, h3, hf4⟩ := Option.bind_eq_some_iff.1 hf3
  clear hf3
  have H2 := Aside0.mk h2
  have H3 := Aside0.mk h3
  have HF := Aside0.mk hf4
  have HP := Aside0.mk hp
  have HZ := Aside0.mk hz
  clear h2 h3 hf4 hp hz
  obtain ⟨n, hn⟩ : ∃ n, (wrap64 (wrap64 (8 * s.W) * s.H)).toNat = n := ⟨_, rfl⟩
  have H3' := H3
  clear H3
  have H3 : Aside0 (px_all k s ps raw (List.replicate n 0) = some (e3, pf)) := ⟨by rw [← hn]; exact H3'.out⟩
  clear H3'
  have HNn := Aside0.mk (show n ≤ 281474976710656 by have := HZ.out; omega)
  go_wp2_with (first | (go_at_call 18; (with_reducible refine (head_Right.calls k s.W s.H s.D s.C s.L e0 _ H0.out).mono ?_); rintro e w_ ⟨rfl, hb⟩; have n0_ := Aside0.mk (HS.out.step hb); clear HS hb; have HS := n0_; clear n0_; clear y0 y1 y2 y3 y4 y5 y6 y7 c0 c1 c2 f0 f1 f2; have y0 := (HS.out.cell 1 rfl 0).trans (show (SHC s : Array Value)[0]? = some (.int .i64 s.W) from rfl); have y1 := (HS.out.cell 1 rfl 1).trans (show (SHC s : Array Value)[1]? = some (.int .i64 s.H) from rfl); have y2 := (HS.out.cell 1 rfl 2).trans (show (SHC s : Array Value)[2]? = some (.int .i64 s.D) from rfl); have y3 := (HS.out.cell 1 rfl 3).trans (show (SHC s : Array Value)[3]? = some (.int .i64 s.C) from rfl); have y4 := (HS.out.cell 1 rfl 4).trans (show (SHC s : Array Value)[4]? = some (.int .i64 s.L) from rfl); have y5 := (HS.out.cell 1 rfl 5).trans (show (SHC s : Array Value)[5]? = some (.string s.pal) from rfl); have y6 := (HS.out.cell 1 rfl 6).trans (show (SHC s : Array Value)[6]? = some (.string s.tr) from rfl); have y7 := (HS.out.cell 1 rfl 7).trans (show (SHC s : Array Value)[7]? = some (.bool s.ht) from rfl); have c0 := (HS.out.cell 0 rfl 0).trans (show (#[.int .i64 0, .int .i64 0, .string (⟨#[]⟩ : ByteArray)] : Array Value)[0]? = some (.int .i64 0) from rfl); have c1 := (HS.out.cell 0 rfl 1).trans (show (#[.int .i64 0, .int .i64 0, .string (⟨#[]⟩ : ByteArray)] : Array Value)[1]? = some (.int .i64 0) from rfl); have c2 := (HS.out.cell 0 rfl 2).trans (show (#[.int .i64 0, .int .i64 0, .string (⟨#[]⟩ : ByteArray)] : Array Value)[2]? = some (.string (⟨#[]⟩ : ByteArray)) from rfl); have f0 := HS.out.fz 0 rfl 0; have f1 := HS.out.fz 0 rfl 1; have f2 := HS.out.fz 0 rfl 2) | (go_at_call 21; (with_reducible refine (lace_Size.calls k s.W s.H s.D s.C s.L n0 _ H1.out).mono ?_); rintro e w_ ⟨rfl, hb⟩; have n0_ := Aside0.mk (HS.out.step hb); clear HS hb; have HS := n0_; clear n0_; clear y0 y1 y2 y3 y4 y5 y6 y7 c0 c1 c2 f0 f1 f2; have y0 := (HS.out.cell 1 rfl 0).trans (show (SHC s : Array Value)[0]? = some (.int .i64 s.W) from rfl); have y1 := (HS.out.cell 1 rfl 1).trans (show (SHC s : Array Value)[1]? = some (.int .i64 s.H) from rfl); have y2 := (HS.out.cell 1 rfl 2).trans (show (SHC s : Array Value)[2]? = some (.int .i64 s.D) from rfl); have y3 := (HS.out.cell 1 rfl 3).trans (show (SHC s : Array Value)[3]? = some (.int .i64 s.C) from rfl); have y4 := (HS.out.cell 1 rfl 4).trans (show (SHC s : Array Value)[4]? = some (.int .i64 s.L) from rfl); have y5 := (HS.out.cell 1 rfl 5).trans (show (SHC s : Array Value)[5]? = some (.string s.pal) from rfl); have y6 := (HS.out.cell 1 rfl 6).trans (show (SHC s : Array Value)[6]? = some (.string s.tr) from rfl); have y7 := (HS.out.cell 1 rfl 7).trans (show (SHC s : Array Value)[7]? = some (.bool s.ht) from rfl); have c0 := (HS.out.cell 0 rfl 0).trans (show (#[.int .i64 0, .int .i64 0, .string (⟨#[]⟩ : ByteArray)] : Array Value)[0]? = some (.int .i64 0) from rfl); have c1 := (HS.out.cell 0 rfl 1).trans (show (#[.int .i64 0, .int .i64 0, .string (⟨#[]⟩ : ByteArray)] : Array Value)[1]? = some (.int .i64 0) from rfl); have c2 := (HS.out.cell 0 rfl 2).trans (show (#[.int .i64 0, .int .i64 0, .string (⟨#[]⟩ : ByteArray)] : Array Value)[2]? = some (.string (⟨#[]⟩ : ByteArray)) from rfl); have f0 := HS.out.fz 0 rfl 0; have f1 := HS.out.fz 0 rfl 1; have f2 := HS.out.fz 0 rfl 2))
  clear q1 q2 q3 y0 y1 y2 y3 y4 y5 y6 y7 c0 c1 c2 f0 f1 f2
  have hmk := px_make (wrap64 (wrap64 (8 * s.W) * s.H)) n hn HZ.out.1 HZ.out.2
  have n0_ := Aside0.mk HS.out.drew
  clear HS
  have HS := n0_
  clear n0_
  refine start_ (n := 14) (S := fun w' => w'.cell? ⟨gs, 0, none⟩ = some (.int .i64 s.W) ∧ w'.cell? ⟨gs, 1, none⟩ = some (.int .i64 s.H) ∧ w'.cell? ⟨gs, 2, none⟩ = some (.int .i64 s.D) ∧ w'.cell? ⟨gs, 3, none⟩ = some (.int .i64 s.C) ∧ w'.cell? ⟨gs, 4, none⟩ = some (.int .i64 s.L) ∧ w'.cell? ⟨gs, 5, none⟩ = some (.string s.pal) ∧ w'.cell? ⟨gs, 6, none⟩ = some (.string s.tr) ∧ w'.cell? ⟨gs, 7, none⟩ = some (.bool s.ht)) (ds := []) (bm 14 0) (by kernel_rfl) rfl rfl ⟨(HS.out.cell 1 rfl 0).trans rfl, (HS.out.cell 1 rfl 1).trans rfl, (HS.out.cell 1 rfl 2).trans rfl, (HS.out.cell 1 rfl 3).trans rfl, (HS.out.cell 1 rfl 4).trans rfl, (HS.out.cell 1 rfl 5).trans rfl, (HS.out.cell 1 rfl 6).trans rfl, (HS.out.cell 1 rfl 7).trans rfl⟩ (fun hHeld => ?_)
  refine with_tabW pixel_Image.tab9 pixel_Image.bits9 (fun HT_ HW_ => ?_)
  generalize World.drew _ = w3 at HS  hHeld ⊢
  refine zt 0 34 (bm 14 1) rfl (by rintro w' ⟨s0_, s1_, s2_, s3_, s4_, s5_, s6_, s7_⟩; go_simp; with_reducible rfl) ?_
  refine zp 1 35 (bm 14 3) ?_
  refine zp 2 36 (bm 14 7) ?_
  refine zt 3 37 (bm 14 15) rfl (by rintro w' ⟨s0_, s1_, s2_, s3_, s4_, s5_, s6_, s7_⟩; go_simp; with_reducible rfl) ?_
  refine zp 4 38 (bm 14 31) ?_
  refine zp 5 39 (bm 14 63) ?_
  refine zp 6 40 (bm 14 127) ?_
  refine zt 7 41 (bm 14 255) rfl (by rintro w' ⟨s0_, s1_, s2_, s3_, s4_, s5_, s6_, s7_⟩; go_simp; with_reducible rfl) ?_
  refine zp 8 42 (bm 14 511) ?_
  refine zp 10 44 (bm 14 1535) ?_
  refine one_ (i := 9) (N := some 43) (bm 14 2047) rfl rfl (one_of HT_.out (by kernel_rfl)) (by decide) (fun K hK => ?_)
  refine make_step (by rfl) (N := 43) rfl (cs := PX (List.replicate n 0)) (t := 5) (n := n) (by first | (go_simp; done) | (go_simp; rfl)) ?_
  intro gP hg w4 hbox hb
  have n0_ := Aside0.mk (HS.out.box hb hg hbox); clear HS hb hg hbox; have HS := n0_; clear n0_
  refine hK.out _ _ ⟨(HS.out.cell 2 rfl 0).trans rfl, (HS.out.cell 2 rfl 1).trans rfl, (HS.out.cell 2 rfl 2).trans rfl, (HS.out.cell 2 rfl 3).trans rfl, (HS.out.cell 2 rfl 4).trans rfl, (HS.out.cell 2 rfl 5).trans rfl, (HS.out.cell 2 rfl 6).trans rfl, (HS.out.cell 2 rfl 7).trans rfl⟩ (fun hHeld => ?_)
  clear hK K
  refine norm_ (a' := ?_) ?_ ?_
  rotate_left
  · show Act.put _ (some 43) _ = _
    simp only [Act.put, zq1, zq2, zq3, i64_w, i32_w]
    rfl
  refine zp 11 45 (bm 14 4095) ?_
  refine one_ (i := 12) (N := some 46) (bm 14 8191) rfl rfl (one_of HT_.out (by kernel_rfl)) (by decide) (fun K hK => ?_)
  refine box_step (by rfl) (N := 46) rfl (cs := CV s gP n raw) (t := 49) (by first | (go_simp; done) | (go_simp; rfl)) ?_
  intro gc hg w5 hbox hb
  have n0_ := Aside0.mk (HS.out.box hb hg hbox); clear HS hb hg hbox; have HS := n0_; clear n0_
  refine hK.out _ _ ⟨(HS.out.cell 3 rfl 0).trans rfl, (HS.out.cell 3 rfl 1).trans rfl, (HS.out.cell 3 rfl 2).trans rfl, (HS.out.cell 3 rfl 3).trans rfl, (HS.out.cell 3 rfl 4).trans rfl, (HS.out.cell 3 rfl 5).trans rfl, (HS.out.cell 3 rfl 6).trans rfl, (HS.out.cell 3 rfl 7).trans rfl⟩ (fun hHeld => ?_)
  clear hK K
  refine norm_ (a' := ?_) ?_ ?_
  rotate_left
  · show Act.put _ (some 46) _ = _
    simp only [Act.put, zq1, zq2, zq3, i64_w, i32_w]
    rfl
  refine zp 13 8 (bm 14 16383) ?_
  refine done_ (done_of HT_.out (by kernel_rfl)) ?_
  clear HT_ HW_ hHeld
  clear hmk hn
  have y0 := (HS.out.cell 3 rfl 0).trans (show (SHC s : Array Value)[0]? = some (.int .i64 s.W) from rfl)
  have y1 := (HS.out.cell 3 rfl 1).trans (show (SHC s : Array Value)[1]? = some (.int .i64 s.H) from rfl)
  have y2 := (HS.out.cell 3 rfl 2).trans (show (SHC s : Array Value)[2]? = some (.int .i64 s.D) from rfl)
  have y3 := (HS.out.cell 3 rfl 3).trans (show (SHC s : Array Value)[3]? = some (.int .i64 s.C) from rfl)
  have y4 := (HS.out.cell 3 rfl 4).trans (show (SHC s : Array Value)[4]? = some (.int .i64 s.L) from rfl)
  have y5 := (HS.out.cell 3 rfl 5).trans (show (SHC s : Array Value)[5]? = some (.string s.pal) from rfl)
  have y6 := (HS.out.cell 3 rfl 6).trans (show (SHC s : Array Value)[6]? = some (.string s.tr) from rfl)
  have y7 := (HS.out.cell 3 rfl 7).trans (show (SHC s : Array Value)[7]? = some (.bool s.ht) from rfl)
  go_wp2_with (go_at_call 22; (with_reducible refine (lace_Passes.calls k s.W s.H s.D s.C s.L ps _ H2.out).mono ?_); rintro e w6 ⟨v49, rfl, ho_, hb⟩; have n1_ := Aside0.mk (Kd.R_lower ho_ HS.out.below.size); clear ho_; have n0_ := Aside0.mk (HS.out.step hb); clear HS hb; have HS := n0_; clear n0_; have HO := n1_; clear n1_ y0 y1 y2 y3 y4 y5 y6 y7; obtain ⟨adl, col, rfl⟩ := Kd.R_slice1 HO.out HP.out)
  obtain ⟨cl, hcl, hbl⟩ := row_block HO.out
  have n0_ := Aside0.mk (sv_perm (sv_add HS.out hcl hbl (by simp)) ((List.Perm.swap _ _ _).trans (List.Perm.cons _ (List.Perm.swap _ _ _))))
  clear HS hcl hbl
  have HS := n0_
  clear n0_
  have HPM := Aside0.mk (show ps.length ≤ 9223372036854775807 from Kd.C_max (Kd.R_reads' HO.out).2.2)
  go_loopw [51] (fun v51 w' => ∃ (i : Nat) (rw_ : ByteArray) (px : List Int), v51 = .int .i64 (i : Int) ∧ i ≤ ps.length ∧ Aside0 (IInv k s gc gP gr gs n e3 pf ps adl col cl w i rw_ px w')) (fun v _ => ps.length - (intOf v).toNat)
  case atStart => exact ⟨0, raw, _, rfl, Nat.zero_le _, ⟨HS.out, HO.out, H3.out, List.length_replicate⟩⟩
  case round =>
    clear HS HO H3
    obtain ⟨i, rw_, px, rfl, hi, HI⟩ := hrel
    have HS := Aside0.mk HI.out.1
    have HO := Aside0.mk HI.out.2.1
    have H3 := Aside0.mk HI.out.2.2.1
    have HN := Aside0.mk HI.out.2.2.2
    clear HI
    by_cases hlt : i < ps.length
    · have HLT := Aside0.mk hlt
      have q0 : decide ((i : Int) < (ps.length : Int)) = true := decide_eq_true (by omega)
      have q1 : decide (i < ps.length) = true := decide_eq_true hlt
      have q2 := eq_true (show (0 : Int) ≤ (i : Int) by omega)
      have q3 := eq_true (show (i : Int) < (ps.length : Int) by omega)
      obtain ⟨p, hp⟩ : ∃ p, rd_T53 ps (i : Int) = p := ⟨_, rfl⟩
      have HX := Aside0.mk (im_elem ps i p hlt hp)
      obtain ⟨ad_, e_, hx0, hx1, hx2, hx3, hx4, hx5⟩ := at_T53 (Kd.R_reads' HO.out).2.2 (i : Int) (by omega) (by omega)
      cases e_
      rw [hp] at hx0 hx1 hx2 hx3 hx4 hx5
      rw [Int.toNat_natCast] at hx0 hx1 hx2 hx3 hx4 hx5
      clear hlt hi hp
      have hf := H3.out
      rw [HX.out, px_all] at hf
      obtain ⟨⟨e4, px2, rw2⟩, hps, hf1⟩ := Option.bind_eq_some_iff.1 hf
      have HPS := Aside0.mk hps
      have HF2 := Aside0.mk hf1
      clear hf H3 hps hf1
      have HW := Aside0.mk (show wrap64 ((i : Int) + 1) = ((i + 1 : Nat) : Int) by have := HPM.out; have := HLT.out; unfold wrap64; omega)
      go_upto_region 13 with (fail)
      have n0_ := Aside0.mk (sv_rot (sv_new HS.out (PSC p) 53))
      have n1_ := Aside0.mk (Kd.R_alloc HO.out (.cells (PSC p) 53))
      clear HS HO hx0 hx1 hx2 hx3 hx4 hx5 q0 q1 q2 q3
      have HS := n0_
      have HO := n1_
      clear n0_ n1_
      have hex_ : wr.alloc (.cells #[.int .i64 p.f0, .int .i64 p.f1, .int .i64 p.f2, .int .i64 p.f3, .int .i64 p.f4, .int .i64 p.f5] 53) = wr.alloc (.cells (PSC p) 53) := rfl
      rw [hex_]
      clear hex_
      generalize wr.alloc (.cells (PSC p) 53) = w7 at HS HO ⊢
      generalize wr.heap.size = gq at HS HO ⊢
      have y0 := (HS.out.cell 2 rfl 0).trans (show (PSC p : Array Value)[0]? = some (.int .i64 p.f0) from rfl)
      have y1 := (HS.out.cell 2 rfl 1).trans (show (PSC p : Array Value)[1]? = some (.int .i64 p.f1) from rfl)
      have y2 := (HS.out.cell 2 rfl 2).trans (show (PSC p : Array Value)[2]? = some (.int .i64 p.f2) from rfl)
      have y3 := (HS.out.cell 2 rfl 3).trans (show (PSC p : Array Value)[3]? = some (.int .i64 p.f3) from rfl)
      have y4 := (HS.out.cell 2 rfl 4).trans (show (PSC p : Array Value)[4]? = some (.int .i64 p.f4) from rfl)
      have y5 := (HS.out.cell 2 rfl 5).trans (show (PSC p : Array Value)[5]? = some (.int .i64 p.f5) from rfl)
      by_cases he4 : e4 = 0
      · skip
        have HF3 := Aside0.mk ((if_pos he4).symm.trans HF2.out)
        have q4 : (e4 != 0) = false := bne_eq_false_iff_eq.mpr he4
        clear HF2 he4
        go_wp2_with (go_at_call 23; (with_reducible refine (px_pass_calls k s p rw_ rw2 px px2 n e4 gc gP [(gq, PSC p, 53), (adl.block, cl, 53), (gr, (#[.int .i64 0, .int .i64 0, .string (⟨#[]⟩ : ByteArray)] : Array Value), 23), (gs, SHC s, 31)] w _ HS.out HN.out HPS.out).mono ?_); rintro e w8 ⟨rfl, hs_, hn_⟩; have n0_ := Aside0.mk hs_; have n1_ := Aside0.mk hn_; have n2_ := Aside0.mk (row_same rfl HO.out ((hs_.at 3 rfl).trans (HS.out.at 3 rfl).symm)); clear HS HN HO hs_ hn_ y0 y1 y2 y3 y4 y5; have HS := Aside0.mk (sv_tail3 n0_.out); have HN := n1_; have HO := n2_; clear n0_ n1_ n2_)
        go_roundw
        case rel => exact ⟨i + 1, rw2, px2, by first | rfl | (rw [HW.out]) | go_num, HLT.out, ⟨HS.out, HO.out, HF3.out, HN.out⟩⟩
        case measure => exact mea_px HLT.out HW.out
      · have h3 : some (e4, px2) = some (e3, pf) := (if_neg he4).symm.trans HF2.out
        have q4 : (e4 != 0) = true := bne_iff_ne.mpr he4
        obtain ⟨rfl, rfl⟩ := Prod.mk.inj (Option.some.inj h3)
        clear h3 HF2
        have h5 : some (e4, (⟨#[]⟩ : ByteArray)) = some (er, out) := (if_neg he4).symm.trans HF.out
        obtain ⟨rfl, rfl⟩ := Prod.mk.inj (Option.some.inj h5)
        clear h5 HF
        go_upto_region 15 with (go_at_call 23; (with_reducible refine (px_pass_calls k s p rw_ rw2 px px2 n e4 gc gP [(gq, PSC p, 53), (adl.block, cl, 53), (gr, (#[.int .i64 0, .int .i64 0, .string (⟨#[]⟩ : ByteArray)] : Array Value), 23), (gs, SHC s, 31)] w _ HS.out HN.out HPS.out).mono ?_); rintro e w8 ⟨rfl, hs_, hn_⟩; have n0_ := Aside0.mk hs_; have n1_ := Aside0.mk hn_; have n2_ := Aside0.mk (row_same rfl HO.out ((hs_.at 3 rfl).trans (HS.out.at 3 rfl).symm)); clear HS HN HO hs_ hn_ y0 y1 y2 y3 y4 y5; have HS := Aside0.mk (sv_tail3 n0_.out); have HN := n1_; have HO := n2_; clear n0_ n1_ n2_)
        have c0 := (HS.out.cell 3 rfl 0).trans (show (#[.int .i64 0, .int .i64 0, .string (⟨#[]⟩ : ByteArray)] : Array Value)[0]? = some (.int .i64 0) from rfl)
        have c1 := (HS.out.cell 3 rfl 1).trans (show (#[.int .i64 0, .int .i64 0, .string (⟨#[]⟩ : ByteArray)] : Array Value)[1]? = some (.int .i64 0) from rfl)
        have c2 := (HS.out.cell 3 rfl 2).trans (show (#[.int .i64 0, .int .i64 0, .string (⟨#[]⟩ : ByteArray)] : Array Value)[2]? = some (.string (⟨#[]⟩ : ByteArray)) from rfl)
        have f0 := HS.out.fz 3 rfl 0
        have f1 := HS.out.fz 3 rfl 1
        have f2 := HS.out.fz 3 rfl 2
        go_wp2
        refine bodyPost_ret (results_ct rfl _ _ gr 23 #[.int .i64 0, .int .i64 0, .string (⟨#[]⟩ : ByteArray)] (0, 0) _ rfl (Sv.at (((HS.out.set 3 rfl 0 (.int .i64 0)).set 3 rfl 1 (.int .i64 0)).set 3 rfl 2 (.string (⟨#[]⟩ : ByteArray))) 3 rfl) Try.underlying23 rfl (by kernel_rfl)) rfl ?_
        exact ⟨by rw [RS, if_neg he4]; rfl, (((HS.out.set 3 rfl 0 (.int .i64 0)).set 3 rfl 1 (.int .i64 0)).set 3 rfl 2 (.string (⟨#[]⟩ : ByteArray))).below⟩
    · obtain rfl : i = ps.length := by omega
      have q0 : decide ((ps.length : Int) < (ps.length : Int)) = false := decide_eq_false (by omega)
      have h3 := H3.out
      rw [List.drop_length, px_all] at h3
      obtain ⟨rfl, rfl⟩ := Prod.mk.inj (Option.some.inj h3)
      clear h3 H3 hlt hi
      have h5 : some ((0 : Int), strOfNums px) = some (er, out) := (if_pos rfl).symm.trans HF.out
      obtain ⟨rfl, rfl⟩ := Prod.mk.inj (Option.some.inj h5)
      clear h5 HF
      go_wp2
      have n0_ := Aside0.mk HS.out.drew
      clear HS
      have HS := n0_
      clear n0_
      refine start_ (n := 14) (S := fun w' => w'.cell? ⟨gs, 0, none⟩ = some (.int .i64 s.W) ∧ w'.cell? ⟨gs, 1, none⟩ = some (.int .i64 s.H) ∧ w'.cell? ⟨gc, 8, none⟩ = some (.slice (some ⟨gP, 0, none⟩) n n) ∧ w'.heap[gP]? = some (.cells (PX px) 5 (0, 0))) (ds := []) (bm 14 0) (by kernel_rfl) rfl rfl ⟨(HS.out.cell 4 rfl 0).trans rfl, (HS.out.cell 4 rfl 1).trans rfl, (HS.out.cell 0 rfl 8).trans rfl, HS.out.at 1 rfl⟩ (fun hHeld => ?_)
      refine with_tabW pixel_Image.tab17 pixel_Image.bits17 (fun HT_ HW_ => ?_)
      generalize World.drew _ = w9 at HS  hHeld ⊢
      refine zp 0 63 (bm 14 1) ?_
      refine zp 1 64 (bm 14 3) ?_
      refine zt 2 65 (bm 14 7) rfl (by rintro w' ⟨s0_, s1_, s2_, s3_⟩; go_simp; with_reducible rfl) ?_
      refine zp 3 66 (bm 14 15) ?_
      refine zp 4 67 (bm 14 31) ?_
      refine zt 5 68 (bm 14 63) rfl (by rintro w' ⟨s0_, s1_, s2_, s3_⟩; go_simp; with_reducible rfl) ?_
      refine zp 6 69 (bm 14 127) ?_
      refine zp 7 70 (bm 14 255) ?_
      refine zp 8 71 (bm 14 511) ?_
      refine zt 9 72 (bm 14 1023) rfl (by rintro w' ⟨s0_, s1_, s2_, s3_⟩; go_simp; with_reducible rfl) ?_
      refine take_ (i := 10) (N := some 73) (v := ?_) (a' := ?_) (bm 14 2047) rfl rfl (take_ofW HT_.out HW_.out (by kernel_rfl)) (fun _ _ _ h => h) (Or.inl ⟨by rfl, ?_⟩) hHeld ?_ ?_
      rotate_left
      · rintro w' ⟨s0_, s1_, s2_, s3_⟩
        have hcv_ := own_string (P := Try.prog) Try.underlying45 Try.underlying5 Try.underlying9 (own_px s3_ (Nat.le_refl _) HN.out HNn.out)
        go_simp
        with_reducible rfl
      rotate_left
      · simp only [Act.put, zq1, zq2, zq3, i64_w, i32_w]
        rfl
      refine zp 11 74 (bm 14 4095) ?_
      refine one_ (i := 12) (N := none) (bm 14 8191) rfl rfl (one_of HT_.out (by kernel_rfl)) (by decide) (fun K hK => ?_)
      have c0 := (HS.out.cell 3 rfl 0).trans (show (#[.int .i64 0, .int .i64 0, .string (⟨#[]⟩ : ByteArray)] : Array Value)[0]? = some (.int .i64 0) from rfl)
      have f0 := HS.out.fz 3 rfl 0
      have c1 := (HS.out.cell 3 rfl 1).trans (show (#[.int .i64 0, .int .i64 0, .string (⟨#[]⟩ : ByteArray)] : Array Value)[1]? = some (.int .i64 0) from rfl)
      have f1 := HS.out.fz 3 rfl 1
      have c2 := (HS.out.cell 3 rfl 2).trans (show (#[.int .i64 0, .int .i64 0, .string (⟨#[]⟩ : ByteArray)] : Array Value)[2]? = some (.string (⟨#[]⟩ : ByteArray)) from rfl)
      have f2 := HS.out.fz 3 rfl 2
      refine skip_ (w1 := ?_) (by rfl) rfl ?_ ?_
      rotate_left
      · go_simp
        rfl
      have n0_ : Aside0 (Sv w [(gc, CV s gP n rw_, 49), (gP, PX px, 5), (adl.block, cl, 53), (gr, #[.int .i64 s.W, .int .i64 s.H, .string (strOfNums px)], 23), (gs, SHC s, 31)] (World.setCell (World.setCell (World.setCell w9 ⟨gr, 0, none⟩ (.int .i64 s.W)) ⟨gr, 1, none⟩ (.int .i64 s.H)) ⟨gr, 2, none⟩ (.string (strOfNums px)))) := ⟨(Sv.set (Sv.set (Sv.set HS.out 3 rfl 0 (.int .i64 s.W)) 3 rfl 1 (.int .i64 s.H)) 3 rfl 2 (.string (strOfNums px)))⟩
      clear HS c0 c1 c2 f0 f1 f2
      have HS := n0_
      clear n0_
      generalize (World.setCell (World.setCell (World.setCell w9 ⟨gr, 0, none⟩ (.int .i64 s.W)) ⟨gr, 1, none⟩ (.int .i64 s.H)) ⟨gr, 2, none⟩ (.string (strOfNums px))) = w10 at HS ⊢
      refine hK.out _ _ ⟨(HS.out.cell 4 rfl 0).trans rfl, (HS.out.cell 4 rfl 1).trans rfl, (HS.out.cell 0 rfl 8).trans rfl, HS.out.at 1 rfl⟩ (fun hHeld => ?_)
      clear hK K
      refine zp 13 5 (bm 14 16383) ?_
      refine done_ (done_of HT_.out (by kernel_rfl)) ?_
      clear HT_ HW_ hHeld
      try go_wp2
      refine bodyPost_ret (results_ct rfl _ _ gr 23 #[.int .i64 s.W, .int .i64 s.H, .string (strOfNums px)] (0, 0) _ rfl (HS.out.at 3 rfl) Try.underlying23 rfl (by kernel_rfl)) rfl ?_
      exact ⟨by rw [RS, if_pos rfl]; rfl, HS.out.below⟩
theorem px_cols_mono (k : Nat) (s : PSh) (p : S53) (y : Int) (v : List Int) (many : Int) : ∀ m x pix, LeO (px_cols k s p y v many m x pix) (px_cols (k + 1) s p y v many m x pix) := by
  intro m
  induction m with
  | zero => intro x pix; exact LeO.refl _
  | succ m ih =>
    intro x pix
    rw [px_cols, px_cols]
    exact LeO.ite (LeO.ite (LeO.ite (LeO.bind (samples_Pixel.mono _ _ _ _ _ _ _ _ _ _) (fun _ => LeO.ite (LeO.ite (ih _ _) (LeO.refl _)) (LeO.refl _))) (LeO.refl _)) (LeO.refl _)) (LeO.refl _)
theorem px_row_mono (k : Nat) (s : PSh) (p : S53) (y : Int) (line : ByteArray) (pix : List Int) : LeO (px_row k s p y line pix) (px_row (k + 1) s p y line pix) := by
  unfold px_row
  exact LeO.ite (LeO.bind (head_Samples.mono _ _) (fun _ => LeO.bind (samples_Unpack.mono _ _ _ _) (fun _ => LeO.ite (px_cols_mono _ _ _ _ _ _ _ _ _) (LeO.refl _)))) (LeO.refl _)
theorem px_rows_mono (k : Nat) (s : PSh) (p : S53) (nI : Int) : ∀ m y ab raw pix, LeO (px_rows k s p nI m y ab raw pix) (px_rows (k + 1) s p nI m y ab raw pix) := by
  intro m
  induction m with
  | zero => intro y ab raw pix; exact LeO.refl _
  | succ m ih =>
    intro y ab raw pix
    rw [px_rows, px_rows]
    exact LeO.ite (LeO.ite (LeO.ite (LeO.bind (pixel_bpp.mono _ _ _ _ _ _) (fun _ => LeO.bind (filter_Undo.mono _ _ _ _ _) (fun _ => LeO.ite (LeO.bind (px_row_mono _ _ _ _ _ _) (fun _ => LeO.ite (ih _ _ _ _) (LeO.refl _))) (LeO.refl _)))) (LeO.refl _)) (LeO.refl _)) (LeO.refl _)
theorem px_pass_mono (k : Nat) (s : PSh) (p : S53) (raw : ByteArray) (pix : List Int) : LeO (px_pass k s p raw pix) (px_pass (k + 1) s p raw pix) := by
  unfold px_pass
  exact LeO.ite (LeO.bind (lace_Row.mono _ _ _ _ _ _ _) (fun _ => px_rows_mono _ _ _ _ _ _ _ _ _)) (LeO.refl _)
theorem px_all_mono (k : Nat) (s : PSh) : ∀ ps raw pix, LeO (px_all k s ps raw pix) (px_all (k + 1) s ps raw pix) := by
  intro ps
  induction ps with
  | nil => intro raw pix; exact LeO.refl _
  | cons p ps ih =>
    intro raw pix
    rw [px_all, px_all]
    exact LeO.bind (px_pass_mono _ _ _ _ _) (fun _ => LeO.ite (ih _ _) (LeO.refl _))
theorem px_image_mono (k : Nat) (s : PSh) (raw : ByteArray) : LeO (px_image k s raw) (px_image (k + 1) s raw) := by
  unfold px_image
  exact LeO.bind (head_Right.mono _ _ _ _ _ _) (fun _ => LeO.ite (LeO.bind (lace_Size.mono _ _ _ _ _ _) (fun _ => LeO.ite (LeO.refl _) (LeO.ite (LeO.refl _) (LeO.ite (LeO.bind (lace_Passes.mono _ _ _ _ _ _) (fun _ => LeO.ite (LeO.bind (px_all_mono _ _ _ _ _) (fun _ => LeO.refl _)) (LeO.refl _))) (LeO.refl _))))) (LeO.refl _))
def px_out (W H : Int) (r : Int × ByteArray) : Option (Int × Int × ByteArray × Int) := if r.1 = 0 then some (W, H, r.2, 0) else some (0, 0, (⟨#[]⟩ : ByteArray), r.1)
theorem px_out_RS {W H : Int} {r : Int × ByteArray} {r1 r2 r4 : Int} {r3 : ByteArray} (h : px_out W H r = some (r1, r2, r3, r4)) : RS r.1 W H r.2 = #[.int .i64 r1, .int .i64 r2, .string r3] ∧ r.1 = r4 := by
  unfold px_out at h
  by_cases e : r.1 = 0
  · rw [if_pos e] at h
    cases h
    exact ⟨by rw [RS, if_pos e], e⟩
  · rw [if_neg e] at h
    cases h
    exact ⟨by rw [RS, if_neg e], rfl⟩
def pixel_Image.f (k : Nat) (a0_0 : Int) (a0_1 : Int) (a0_2 : Int) (a0_3 : Int) (a0_4 : Int) (a0_5 : ByteArray) (a0_6 : ByteArray) (a0_7 : Bool) (a1 : ByteArray) : Option (Int × Int × ByteArray × Int) :=
  (px_image k ⟨a0_0, a0_1, a0_2, a0_3, a0_4, a0_5, a0_6, a0_7⟩ a1).bind fun r => px_out a0_0 a0_1 r
theorem pixel_Image.mono : ∀ a0 a1 a2 a3 a4 a5 a6 a7 a8 k, LeO (pixel_Image.f k a0 a1 a2 a3 a4 a5 a6 a7 a8) (pixel_Image.f (k + 1) a0 a1 a2 a3 a4 a5 a6 a7 a8) := by
  intro a0 a1 a2 a3 a4 a5 a6 a7 a8 k
  exact LeO.bind (px_image_mono _ _ _) (fun _ => LeO.refl _)
theorem pixel_Image.calls (k : Nat) (a0_0 : Int) (a0_1 : Int) (a0_2 : Int) (a0_3 : Int) (a0_4 : Int) (a0_5 : ByteArray) (a0_6 : ByteArray) (a0_7 : Bool) (a1 : ByteArray) (r1 : Int) (r2 : Int) (r3 : ByteArray) (r4 : Int) (w : World) (h : pixel_Image.f k a0_0 a0_1 a0_2 a0_3 a0_4 a0_5 a0_6 a0_7 a1 = some (r1, r2, r3, r4)) :
    Calls Try.prog 11 #[.agg #[.int .i64 a0_0, .int .i64 a0_1, .int .i64 a0_2, .int .i64 a0_3, .int .i64 a0_4, .string a0_5, .string a0_6, .bool a0_7], .string a1] w fun e w' => e = .returned (.tuple #[.agg #[.int .i64 r1, .int .i64 r2, .string r3], .int .i64 r4]) ∧ Below w.heap.size w w' := by
  obtain ⟨⟨er, out⟩, h1, h2⟩ := Option.bind_eq_some_iff.1 h
  obtain ⟨h3, h4⟩ := px_out_RS h2
  have h5 := px_image_calls k ⟨a0_0, a0_1, a0_2, a0_3, a0_4, a0_5, a0_6, a0_7⟩ a1 out er w h1
  rw [h3] at h5
  subst h4
  exact h5

end Go.Proofs.Ytejljcglbkjgkaa.PL12
