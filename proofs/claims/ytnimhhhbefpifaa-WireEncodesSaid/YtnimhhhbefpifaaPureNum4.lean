/- Four bytes and the number that they are, plain: by the program and by the document's answer. Conditions: those that each lemma names. -/
import Derived.Test.YtnimhhhbefpifaaPL20x10
import Derived.Test.YtnimhhhbefpifaaPureBits
namespace Go.Proofs.Ytnimhhhbefpifaa.Pure
open Go.RowKit Go.Proofs.YtnimhhhbefpifaaW.PrintWords Go.Proofs.YtnimhhhbefpifaaW.PrintLast Go.Proofs.YtnimhhhbefpifaaW.PrintMore Go.Proofs.Ytnimhhhbefpifaa.PL20
set_option linter.unusedVariables false
set_option linter.unusedSimpArgs false
theorem w_succ {i : Nat} (h : i ≤ 4611686018427387904) : wrap64 ((i : Int) + 1) = ((i + 1 : Nat) : Int) := by rw [w64 (by omega) (by omega)]; omega
theorem toList_nil (s : ByteArray) : s.toList = [] ↔ s.size = 0 := by
  rw [toList_data, ← data_length, List.length_eq_zero_iff]
theorem toList_eq {s t : ByteArray} : s.toList = t.toList ↔ s = t := by
  rw [toList_data, toList_data]
  constructor
  · intro h
    cases s; cases t
    simp only [ByteArray.mk.injEq]
    exact Array.toList_inj.1 h
  · intro h; rw [h]
theorem bt_extract (s : ByteArray) (a b : Nat) (i : Nat) (h : a + i < b) (hb : b ≤ s.size) : bt (s.extract a b) (i : Int) = bt s ((a + i : Nat) : Int) := by
  have h1 : i < (s.extract a b).size := by rw [ByteArray.size_extract]; omega
  unfold bt
  rw [dif_pos (by simpa using h1), dif_pos (show ((a + i : Nat) : Int).toNat < s.size by simp; omega)]
  simp only [Int.toNat_natCast]
  rw [ByteArray.getElem_extract]
theorem bt_app_left (a b : ByteArray) (i : Nat) (h : i < a.size) : bt (a ++ b) (i : Int) = bt a (i : Int) := by
  have h2 : i < (a ++ b).size := by rw [ByteArray.size_append]; omega
  unfold bt
  rw [dif_pos (by simpa using h2), dif_pos (by simpa using h)]
  simp only [Int.toNat_natCast]
  rw [ByteArray.getElem_append_left]
def num4 (s : ByteArray) : Int := bt s 0 * 16777216 + bt s 1 * 65536 + bt s 2 * 256 + bt s 3
def be4 (n : Int) : ByteArray := strOfNums [(n / 16777216) % 256, (n / 65536) % 256, (n / 256) % 256, n % 256]
theorem num4_range (s : ByteArray) : 0 ≤ num4 s ∧ num4 s < 4294967296 := by
  unfold num4
  have h0 := bt_range s 0; have h1 := bt_range s 1; have h2 := bt_range s 2; have h3 := bt_range s 3
  omega
theorem be4_size (n : Int) : (be4 n).size = 4 := by unfold be4; rw [strOfNums_size]; rfl
theorem be4_byt (n : Int) : Byt [(n / 16777216) % 256, (n / 65536) % 256, (n / 256) % 256, n % 256] := by
  intro x hx
  simp only [List.mem_cons, List.not_mem_nil, or_false] at hx
  omega
theorem num4_app (a b : ByteArray) (h : 4 ≤ a.size) : num4 (a ++ b) = num4 a := by
  unfold num4
  rw [show (0 : Int) = ((0 : Nat) : Int) from rfl, show (1 : Int) = ((1 : Nat) : Int) from rfl, show (2 : Int) = ((2 : Nat) : Int) from rfl, show (3 : Int) = ((3 : Nat) : Int) from rfl, bt_app_left _ _ _ (by omega), bt_app_left _ _ _ (by omega), bt_app_left _ _ _ (by omega), bt_app_left _ _ _ (by omega)]
theorem num4_be4 {n : Int} (h0 : 0 ≤ n) (h1 : n < 4294967296) : num4 (be4 n) = n := by
  unfold num4 be4
  have hb := be4_byt n
  rw [bt_str hb, bt_str hb, bt_str hb, bt_str hb]
  show (n / 16777216) % 256 * 16777216 + (n / 65536) % 256 * 65536 + (n / 256) % 256 * 256 + n % 256 = n
  omega
theorem num4_extract (s : ByteArray) (a b : Nat) (h : a + 4 ≤ b) (hb : b ≤ s.size) : num4 (s.extract a b) = num4 (s.extract a (a + 4)) := by
  unfold num4
  rw [show (0 : Int) = ((0 : Nat) : Int) from rfl, show (1 : Int) = ((1 : Nat) : Int) from rfl, show (2 : Int) = ((2 : Nat) : Int) from rfl, show (3 : Int) = ((3 : Nat) : Int) from rfl,
    bt_extract _ _ _ _ (by omega) hb, bt_extract _ _ _ _ (by omega) hb, bt_extract _ _ _ _ (by omega) hb, bt_extract _ _ _ _ (by omega) hb, bt_extract _ _ _ _ (by omega) (by omega), bt_extract _ _ _ _ (by omega) (by omega), bt_extract _ _ _ _ (by omega) (by omega), bt_extract _ _ _ _ (by omega) (by omega)]
theorem be4_num4 (s : ByteArray) (h : 4 = s.size) : be4 (num4 s) = s := by
  have h0 := bt_range s 0; have h1 := bt_range s 1; have h2 := bt_range s 2; have h3 := bt_range s 3
  have e := str_bytes s
  rw [bytesOf_range, ← h] at e
  rw [← e]
  have e4 : (List.range 4).map (fun i : Nat => bt s (i : Int)) = [bt s 0, bt s 1, bt s 2, bt s 3] := rfl
  rw [e4] at e ⊢
  rw [e]
  unfold be4
  rw [← e]
  congr 1
  rw [e]
  unfold num4
  congr 1
  · omega
  · congr 1
    · omega
    · congr 1
      · omega
      · congr 1
        omega
theorem or4 (s : ByteArray) : Go.bits .or .i64 (Go.bits .or .i64 (Go.bits .or .i64 (wrap64 ((wrap64 (bt s 0)) * 16777216)) (wrap64 ((wrap64 (bt s 1)) * 65536))) (wrap64 ((wrap64 (bt s 2)) * 256))) (wrap64 (bt s 3)) = num4 s := by
  have h0 := bt_range s 0; have h1 := bt_range s 1; have h2 := bt_range s 2; have h3 := bt_range s 3
  unfold num4
  rw [w64_bt, w64_bt, w64_bt, w64_bt]
  generalize bt s 0 = a at *
  generalize bt s 1 = b at *
  generalize bt s 2 = c at *
  generalize bt s 3 = d at *
  rw [w64 (x := a * 16777216) (by omega) (by omega), w64 (x := b * 65536) (by omega) (by omega), w64 (x := c * 256) (by omega) (by omega)]
  rw [or_join (x := a * 16777216) (y := b * 65536) 24 (by omega) (by omega) (by omega) (by omega) (by omega) (by omega), or_join (x := a * 16777216 + b * 65536) (y := c * 256) 16 (by omega) (by omega) (by omega) (by omega) (by omega) (by omega), or_join (x := a * 16777216 + b * 65536 + c * 256) (y := d) 8 (by omega) (by omega) (by omega) (by omega) (by omega) (by omega)]
theorem of_loop (s : ByteArray) (hs : s.size = 4) : Ev (fun k => vitrineref06_Of.l0 k s 0 0) (num4 s) := by
  have h0 := bt_range s 0; have h1 := bt_range s 1; have h2 := bt_range s 2; have h3 := bt_range s 3
  refine Ev.step (f := fun k => vitrineref06_Of.l0 k s (bt s 0) 1) (fun k => ?_) ?_
  · simp only [vitrineref06_Of.l0]
    rw [if_pos (by omega), if_pos (by omega), w64_bt, w64 (x := 256 * 0) (by omega) (by omega), w64 (x := 256 * 0 + bt s 0) (by omega) (by omega), w64 (x := 0 + 1) (by omega) (by omega)]
    congr 1 <;> omega
  refine Ev.step (f := fun k => vitrineref06_Of.l0 k s (256 * bt s 0 + bt s 1) 2) (fun k => ?_) ?_
  · simp only [vitrineref06_Of.l0]
    rw [if_pos (by omega), if_pos (by omega), w64_bt, w64 (x := 256 * bt s 0) (by omega) (by omega), w64 (x := 256 * bt s 0 + bt s 1) (by omega) (by omega), w64 (x := 1 + 1) (by omega) (by omega)]
    rfl
  refine Ev.step (f := fun k => vitrineref06_Of.l0 k s (256 * (256 * bt s 0 + bt s 1) + bt s 2) 3) (fun k => ?_) ?_
  · simp only [vitrineref06_Of.l0]
    rw [if_pos (by omega), if_pos (by omega), w64_bt, w64 (x := 256 * (256 * bt s 0 + bt s 1)) (by omega) (by omega), w64 (x := 256 * (256 * bt s 0 + bt s 1) + bt s 2) (by omega) (by omega), w64 (x := 2 + 1) (by omega) (by omega)]
    rfl
  refine Ev.step (f := fun k => vitrineref06_Of.l0 k s (256 * (256 * (256 * bt s 0 + bt s 1) + bt s 2) + bt s 3) 4) (fun k => ?_) ?_
  · simp only [vitrineref06_Of.l0]
    rw [if_pos (by omega), if_pos (by omega), w64_bt, w64 (x := 256 * (256 * (256 * bt s 0 + bt s 1) + bt s 2)) (by omega) (by omega), w64 (x := 256 * (256 * (256 * bt s 0 + bt s 1) + bt s 2) + bt s 3) (by omega) (by omega), w64 (x := 3 + 1) (by omega) (by omega)]
    rfl
  refine Ev.step (f := fun _ => some (num4 s)) (fun k => ?_) (Ev.now _)
  simp only [vitrineref06_Of.l0]
  rw [if_neg (by omega)]
  unfold num4
  congr 1
  omega
theorem Of_ev (s : ByteArray) (hs : s.size = 4) : Ev (fun k => vitrineref06_Of.f k s) (num4 s) := by
  unfold vitrineref06_Of.f
  exact of_loop s hs

end Go.Proofs.Ytnimhhhbefpifaa.Pure
