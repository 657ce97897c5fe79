/- Layer 7 (chunk): the plain law ChunkJoins. Conditions: lists as long as the model allows. -/
import Derived.Test.YtfgbfbhllbejpaaPL07x7
import Derived.Test.YtfgbfbhllbejpaaPL07x11
import Derived.Test.YtfgbfbhllbejpaaPL07x12
import Derived.Test.YtfgbfbhllbejpaaPL07x13
import Derived.Test.YtfgbfbhllbejpaaPureC07L
namespace Go.Proofs.Ytfgbfbhllbejpaa.Pure
open Go.RowKit Go.Proofs.YtfgbfbhllbejpaaW.PrintWords Go.Proofs.YtfgbfbhllbejpaaW.PrintLast Go.Proofs.YtfgbfbhllbejpaaW.PrintMore Go.Proofs.Ytfgbfbhllbejpaa.PL07
set_option linter.unusedVariables false
set_option linter.unusedSimpArgs false
theorem str_app (a b : List Int) : strOfNums (a ++ b) = strOfNums a ++ strOfNums b := by
  apply ByteArray.ext
  simp [strOfNums]
theorem str_snoc (a : List Int) (y : ByteArray) : strOfNums (a ++ bytesOf y) = strOfNums a ++ y := by rw [str_app, str_bytes]
theorem four_f {n : Int} (h0 : 0 ≤ n) (h1 : n ≤ 9223372036854775807) : vitrineref06_Four.f n = some (be4 n) := by
  unfold vitrineref06_Four.f be4
  rw [Int.tdiv_eq_ediv_of_nonneg h0, Int.tdiv_eq_ediv_of_nonneg h0, Int.tdiv_eq_ediv_of_nonneg h0, w64 (by omega) (by omega), w64 (by omega) (by omega), w64 (by omega) (by omega)]
theorem rjoin_loop (l : List S35) (hl : l.length ≤ 4611686018427387904) : ∀ (d i : Nat) (acc : List Int), i + d = l.length → acc.length + tot (l.drop i) ≤ 1000000 → Ev (fun k => vitrineref07_Join.l0 k l acc (i : Int)) (joinS (l.drop i) (strOfNums acc)) := by
  intro d
  induction d with
  | zero =>
    intro i acc hi ht
    rw [List.drop_of_length_le (by omega)]
    refine Ev.step (f := fun _ => some (strOfNums acc, 0)) (fun k => ?_) (Ev.now _)
    simp only [vitrineref07_Join.l0]
    rw [if_neg (by omega)]
  | succ d ih =>
    intro i acc hi ht
    have hlt : i < l.length := by omega
    have hr := rd35_at l i hlt
    have hw := w_succ (i := i) (by omega)
    rw [List.drop_eq_getElem_cons hlt] at ht ⊢
    have ih2 := ih (i + 1)
    have hbad : good l[i] = false → Ev (fun k => vitrineref07_Join.j1 k l acc (i : Int) true) (joinS (l[i] :: l.drop (i + 1)) (strOfNums acc)) := by
      intro hg
      rw [show joinS (l[i] :: l.drop (i + 1)) (strOfNums acc) = (⟨#[]⟩, 21) from by show (if good l[i] = true then _ else _) = _; rw [hg]; rfl]
      refine Ev.step (f := fun _ => some (⟨#[]⟩, 21)) (fun k => ?_) (Ev.now _)
      simp only [vitrineref07_Join.j1, if_true]
    unfold tot at ht
    refine Ev.step (f := fun k => ((vitrineref07_right.f k (l[i]).f0).bind fun t181 => (if t181 = true then (vitrineref07_Join.j1 k l acc (i : Int) (decide (((l[i]).f1.size : Int) > 2147483647))) else (vitrineref07_Join.j1 k l acc (i : Int) true)))) (fun k => ?_) (Ev.bind (right_ev (l[i]).f0) ?_)
    · simp only [vitrineref07_Join.l0]
      rw [if_pos (by omega), if_pos (by omega), hr]
    · cases hn : nam (l[i]).f0 with
      | false =>
        simp only [Bool.false_eq_true, if_false]
        exact hbad (by unfold good; rw [hn]; rfl)
      | true =>
        simp only [if_true]
        have hg : good l[i] = true := by unfold good; rw [hn, decide_eq_true (by omega)]; rfl
        rw [decide_eq_false (by omega), show joinS (l[i] :: l.drop (i + 1)) (strOfNums acc) = joinS (l.drop (i + 1)) (strOfNums acc ++ enc l[i]) from by show (if good l[i] = true then _ else _) = _; rw [hg]; rfl]
        have hc := crc_range ((l[i]).f0 ++ (l[i]).f1)
        have l1 := be4_size ((l[i]).f1.size : Int)
        have l2 := be4_size (crc ((l[i]).f0 ++ (l[i]).f1))
        have hb1 : (bytesOf (be4 ((l[i]).f1.size : Int))).length = 4 := by rw [bytesOf_length, l1]
        have hb2 : (bytesOf (l[i]).f0).length = (l[i]).f0.size := bytesOf_length _
        have hb3 : (bytesOf (l[i]).f1).length = (l[i]).f1.size := bytesOf_length _
        have hb4 : (bytesOf (be4 (crc ((l[i]).f0 ++ (l[i]).f1)))).length = 4 := by rw [bytesOf_length, l2]
        have he : strOfNums (((acc ++ bytesOf (be4 ((l[i]).f1.size : Int))) ++ bytesOf (l[i]).f0) ++ bytesOf (l[i]).f1 ++ bytesOf (be4 (crc ((l[i]).f0 ++ (l[i]).f1)))) = strOfNums acc ++ enc l[i] := by
          rw [str_snoc, str_snoc, str_snoc, str_snoc]
          unfold enc
          simp only [ByteArray.append_assoc]
        have ih3 := ih2 (((acc ++ bytesOf (be4 ((l[i]).f1.size : Int))) ++ bytesOf (l[i]).f0) ++ bytesOf (l[i]).f1 ++ bytesOf (be4 (crc ((l[i]).f0 ++ (l[i]).f1)))) (by omega) (by simp only [List.length_append, hb1, hb2, hb3, hb4]; omega)
        rw [he] at ih3
        refine Ev.step (f := fun k => ((vitrineref01_Crc.f k ((l[i]).f0 ++ (l[i]).f1)).bind fun t198 => ((vitrineref06_Four.f t198).bind fun t199 => (if (((acc ++ bytesOf (be4 ((l[i]).f1.size : Int))) ++ bytesOf (l[i]).f0) ++ bytesOf (l[i]).f1).length + t199.size < 140737488355328 then (vitrineref07_Join.l0 k l ((((acc ++ bytesOf (be4 ((l[i]).f1.size : Int))) ++ bytesOf (l[i]).f0) ++ bytesOf (l[i]).f1) ++ bytesOf t199) ((i + 1 : Nat) : Int)) else (none))))) (fun k => ?_) (Ev.bind (rCrc_ev ((l[i]).f0 ++ (l[i]).f1) (by rw [ByteArray.size_append]; omega)) ?_)
        · simp only [vitrineref07_Join.j1, Bool.false_eq_true, if_false]
          rw [if_pos (by omega), if_pos (by omega), hr, four_f (by omega) (by omega)]
          simp only [Option.bind_some]
          rw [if_pos (by omega)]
          rw [if_pos (by simp only [List.length_append, hb1]; omega)]
          rw [if_pos (by simp only [List.length_append, hb1, hb2]; omega)]
          rw [if_pos (by omega), hw]
        · rw [four_f hc.1 (by omega)]
          simp only [Option.bind_some]
          rw [l2]
          simp only [if_pos (show (((acc ++ bytesOf (be4 ((l[i]).f1.size : Int))) ++ bytesOf (l[i]).f0) ++ bytesOf (l[i]).f1).length + 4 < 140737488355328 by simp only [List.length_append, hb1, hb2, hb3]; omega)]
          exact ih3
theorem rJoin_ev (l : List S35) (hl : l.length ≤ 4611686018427387904) (ht : tot l ≤ 900000) : Ev (fun k => vitrineref07_Join.f k l) (joinS l sig) := by
  unfold vitrineref07_Join.f
  have h := rjoin_loop l hl l.length 0 [137, 80, 78, 71, 13, 10, 26, 10] (by omega) (by rw [List.drop_zero]; show 8 + _ ≤ _; omega)
  exact h
theorem ChunkJoins : ∀ (l0 : List (S35)), (l0.length ≤ maxLen ∧ l0.length * 32 ≤ 140737488351232 ∧ ∀ y_ ∈ l0, okS35 y_) → ∃ k, vitrinelaw07_ChunkJoins.f k l0 = some true := by
  intro l ⟨_, hl, hok⟩
  refine Ev.rounds ?_
  unfold vitrinelaw07_ChunkJoins.f
  obtain ⟨b, hb, hbt⟩ := few_ev l (by omega) hok
  refine Ev.bind hb ?_
  cases b with
  | false =>
    simp only [Bool.false_eq_true, if_false]
    exact awake_id
  | true =>
    have ht := hbt rfl
    have hn : l.length ≤ tot l := by
      have : ∀ l : List S35, l.length ≤ tot l := by
        intro l
        induction l with
        | nil => exact Nat.zero_le _
        | cons c cs ih => rw [List.length_cons]; unfold tot; omega
      exact this l
    simp only [if_true, Option.bind_some, List.nil_append, List.length_nil, if_pos (show 0 + l.length < 4398046511104 by omega)]
    refine Ev.bind (Join_ev l (by omega) (by omega)) (Ev.bind (rJoin_ev l (by omega) (by omega)) ?_)
    simp only [if_true]
    refine Ev.bind (chunks_ev l (by omega)) ?_
    simp only [if_true]
    exact awake_id

end Go.Proofs.Ytfgbfbhllbejpaa.Pure
