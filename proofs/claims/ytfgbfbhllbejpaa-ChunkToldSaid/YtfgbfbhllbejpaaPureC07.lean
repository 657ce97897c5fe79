/- Layer 7 (chunk), plain: the program's and the document's answer as plain functions on bytes. Conditions: strings and lists as long as the model allows. -/
import Derived.Test.YtfgbfbhllbejpaaPL07x2
import Derived.Test.YtfgbfbhllbejpaaPL07x3
import Derived.Test.YtfgbfbhllbejpaaPL07x4
import Derived.Test.YtfgbfbhllbejpaaPL07x5
import Derived.Test.YtfgbfbhllbejpaaPL07x7
import Derived.Test.YtfgbfbhllbejpaaPL07x8
import Derived.Test.YtfgbfbhllbejpaaPL07x9
import Derived.Test.YtfgbfbhllbejpaaPL07x11
import Derived.Test.YtfgbfbhllbejpaaPureNum4
import Derived.Test.YtfgbfbhllbejpaaPureCrc
import Derived.Test.YtfgbfbhllbejpaaPL07S
namespace Go.Proofs.Ytfgbfbhllbejpaa.Pure
open Go.RowKit Go.Proofs.YtfgbfbhllbejpaaW.PrintWords Go.Proofs.YtfgbfbhllbejpaaW.PrintLast Go.Proofs.YtfgbfbhllbejpaaW.PrintMore Go.Proofs.Ytfgbfbhllbejpaa.PL07
set_option linter.unusedVariables false
set_option linter.unusedSimpArgs false
theorem number_f (s : ByteArray) (h : 4 ≤ s.size) : chunk_number.f s = some (num4 s) := by
  unfold chunk_number.f
  rw [if_pos (by omega), if_pos (by omega), if_pos (by omega), if_pos (by omega), or4]
def letter (b : Int) : Bool := decide ((65 ≤ b ∧ b ≤ 90) ∨ (97 ≤ b ∧ b ≤ 122))
def allLet (s : ByteArray) : Nat → Nat → Bool
  | 0, _ => true
  | d + 1, i => letter (bt s (i : Int)) && allLet s d (i + 1)
/-- Is a text a type? -/
def nam (s : ByteArray) : Bool := decide (s.size = 4) && allLet s s.size 0
theorem nam_size {s : ByteArray} (h : nam s = true) : s.size = 4 := by
  unfold nam at h
  rw [Bool.and_eq_true] at h
  exact of_decide_eq_true h.1
theorem capital_f (b : Int) : chunk_capital.f b = some (decide (65 ≤ b ∧ b ≤ 90)) := by
  unfold chunk_capital.f
  by_cases h : b ≥ 65
  · rw [if_pos h]
    congr 1
    rw [decide_eq_decide]
    omega
  · rw [if_neg h, decide_eq_false (by omega)]
theorem named_loop (s : ByteArray) (hs : s.size ≤ 4611686018427387904) : ∀ (d i : Nat) (ok : Bool), i + d = s.size → Ev (fun k => chunk_named.l0 k s ok (s.size : Int) (i : Int)) (ok && allLet s d i) := by
  intro d
  induction d with
  | zero =>
    intro i ok hi
    refine Ev.step (f := fun _ => some ok) (fun k => ?_) (ev_same (Ev.now _) (by simp [allLet]))
    simp only [chunk_named.l0]
    rw [if_neg (by omega)]
  | succ d ih =>
    intro i ok hi
    have hw := w_succ (i := i) (by omega)
    have hb := bt_range s (i : Int)
    cases ok with
    | false =>
      refine Ev.step (fun k => ?_) (ev_same (ih (i + 1) false (by omega)) (by simp))
      simp only [chunk_named.l0]
      rw [if_pos (by omega), if_neg (by decide), hw]
    | true =>
      have key : ∀ c : Bool, c = letter (bt s (i : Int)) → Ev (fun k => chunk_named.l0 k s c (s.size : Int) ((i + 1 : Nat) : Int)) (true && allLet s (d + 1) i) := by
        intro c hc
        refine ev_same (ih (i + 1) c (by omega)) ?_
        rw [hc, Bool.true_and]
        rfl
      by_cases h1 : 65 ≤ bt s (i : Int) ∧ bt s (i : Int) ≤ 90
      · refine Ev.step (fun k => ?_) (key true (by unfold letter; rw [decide_eq_true (.inl h1)]))
        simp only [chunk_named.l0, capital_f, Option.bind_some]
        rw [if_pos (by omega), if_pos trivial, if_pos (by omega), if_pos (by omega), if_pos (by rw [decide_eq_true h1]), hw]
      · by_cases h2 : 65 ≤ ((((bt s (i : Int)) - 97) % 256) + 65) % 256 ∧ ((((bt s (i : Int)) - 97) % 256) + 65) % 256 ≤ 90
        · refine Ev.step (fun k => ?_) (key (decide ((bt s (i : Int)) ≥ 97)) (by unfold letter; rw [decide_eq_decide]; omega))
          simp only [chunk_named.l0, capital_f, Option.bind_some]
          rw [if_pos (by omega), if_pos trivial, if_pos (by omega), if_pos (by omega), if_neg (by rw [decide_eq_false h1]; decide), if_pos (by rw [decide_eq_true h2]), hw]
        · refine Ev.step (fun k => ?_) (key false (by unfold letter; rw [decide_eq_false (by omega)]))
          simp only [chunk_named.l0, capital_f, Option.bind_some]
          rw [if_pos (by omega), if_pos trivial, if_pos (by omega), if_pos (by omega), if_neg (by rw [decide_eq_false h1]; decide), if_neg (by rw [decide_eq_false h2]; decide), hw]
theorem named_ev (s : ByteArray) (hs : s.size ≤ 4611686018427387904) : Ev (fun k => chunk_named.f k s) (nam s) := by
  unfold chunk_named.f
  refine ev_same (named_loop s hs s.size 0 ((s.size : Int) == 4) (by omega)) ?_
  unfold nam
  congr 1
  by_cases h : s.size = 4
  · rw [decide_eq_true h]; exact beq_iff_eq.mpr (by omega)
  · rw [decide_eq_false h]; exact beq_eq_false_iff_ne.mpr (by omega)
theorem right_loop (s : ByteArray) (hs : s.size = 4) : ∀ (d i : Nat), i + d = 4 → Ev (fun k => vitrineref07_right.l0 k s (i : Int)) (allLet s d i) := by
  intro d
  induction d with
  | zero =>
    intro i hi
    refine Ev.step (f := fun _ => some true) (fun k => ?_) (ev_same (Ev.now _) (by simp [allLet]))
    simp only [vitrineref07_right.l0]
    rw [if_neg (by omega)]
  | succ d ih =>
    intro i hi
    have hw := w_succ (i := i) (by omega)
    have hj : ∀ c : Bool, c = !letter (bt s (i : Int)) → Ev (fun k => vitrineref07_right.j1 k s (i : Int) c) (allLet s (d + 1) i) := by
      intro c hc
      cases hl : letter (bt s (i : Int)) with
      | true =>
        rw [hl] at hc
        subst hc
        refine Ev.step (fun k => ?_) (ev_same (ih (i + 1) (by omega)) (by show _ = (_ && _); rw [hl, Bool.true_and]))
        simp only [vitrineref07_right.j1]
        rw [if_neg (by decide), hw]
      | false =>
        rw [hl] at hc
        subst hc
        refine Ev.step (f := fun _ => some false) (fun k => ?_) (ev_same (Ev.now _) (by show _ = (_ && _); rw [hl, Bool.false_and]))
        simp only [vitrineref07_right.j1]
        rw [if_pos (by decide)]
    by_cases h1 : bt s (i : Int) ≥ 65
    · by_cases h2 : bt s (i : Int) ≤ 90
      · refine Ev.step (fun k => ?_) (hj (!true) (by unfold letter; rw [decide_eq_true (.inl ⟨h1, h2⟩)]))
        simp only [vitrineref07_right.l0]
        rw [if_pos (by omega), if_pos (by omega), if_pos (by omega), if_pos h1, if_pos h2]
      · by_cases h3 : bt s (i : Int) ≥ 97
        · refine Ev.step (fun k => ?_) (hj (!(decide ((bt s (i : Int)) ≤ 122))) (by unfold letter; congr 1; rw [decide_eq_decide]; omega))
          simp only [vitrineref07_right.l0]
          rw [if_pos (by omega), if_pos (by omega), if_pos (by omega), if_pos h1, if_neg h2, if_pos h3]
        · refine Ev.step (fun k => ?_) (hj (!false) (by unfold letter; rw [decide_eq_false (by omega)]))
          simp only [vitrineref07_right.l0]
          rw [if_pos (by omega), if_pos (by omega), if_pos (by omega), if_pos h1, if_neg h2, if_neg h3]
    · refine Ev.step (fun k => ?_) (hj (!false) (by unfold letter; rw [decide_eq_false (by omega)]))
      simp only [vitrineref07_right.l0]
      rw [if_pos (by omega), if_pos (by omega), if_pos (by omega), if_neg h1, if_neg (by omega)]
theorem right_ev (s : ByteArray) : Ev (fun k => vitrineref07_right.f k s) (nam s) := by
  unfold vitrineref07_right.f nam
  by_cases h : s.size = 4
  · simp only [if_pos (show (s.size : Int) = 4 by omega)]
    refine ev_same (right_loop s h 4 0 rfl) ?_
    rw [decide_eq_true h, h, Bool.true_and]
  · simp only [if_neg (show ¬ (s.size : Int) = 4 by omega)]
    rw [decide_eq_false h, Bool.false_and]
    exact Ev.now _
/-- What stands at the head of bytes: the first chunk, what is behind it, and what is wrong. -/
def nextS (s : ByteArray) : ByteArray × ByteArray × ByteArray × Int :=
  if s.size < 8 then (⟨#[]⟩, ⟨#[]⟩, ⟨#[]⟩, 3)
  else if num4 s > 2147483647 ∨ nam (s.extract 4 8) = false then (⟨#[]⟩, ⟨#[]⟩, ⟨#[]⟩, 21)
  else if (s.size : Int) < 12 + num4 s then (⟨#[]⟩, ⟨#[]⟩, ⟨#[]⟩, 3)
  else if num4 (s.extract (8 + (num4 s).toNat) s.size) ≠ crc (s.extract 4 (8 + (num4 s).toNat)) then (⟨#[]⟩, ⟨#[]⟩, ⟨#[]⟩, 22)
  else (s.extract 4 8, s.extract 8 (8 + (num4 s).toNat), s.extract (12 + (num4 s).toNat) s.size, 0)
theorem next_ev (s : ByteArray) (hs : s.size ≤ 140737488351232) : Ev (fun k => chunk_next.f k s) (nextS s) := by
  unfold chunk_next.f nextS
  by_cases h8 : s.size < 8
  · simp only [if_pos (show (s.size : Int) < 8 by omega)]
    rw [if_pos h8]
    exact Ev.now _
  · simp only [if_neg (show ¬ (s.size : Int) < 8 by omega)]
    rw [if_neg h8]
    rw [number_f s (by omega)]
    simp only [Option.bind_some, if_pos (show (4 : Nat) ≤ 8 by omega), if_pos (show (8 : Int) ≤ (s.size : Int) by omega)]
    have hr := num4_range s
    have hbad : num4 s > 2147483647 ∨ nam (s.extract 4 8) = false → Ev (fun k => chunk_next.j0 k (num4 s) (s.extract 4 8) (s.extract 8 s.size) true) (if num4 s > 2147483647 ∨ nam (s.extract 4 8) = false then ((⟨#[]⟩ : ByteArray), (⟨#[]⟩ : ByteArray), (⟨#[]⟩ : ByteArray), (21 : Int)) else if (s.size : Int) < 12 + num4 s then (⟨#[]⟩, ⟨#[]⟩, ⟨#[]⟩, 3)
  else if num4 (s.extract (8 + (num4 s).toNat) s.size) ≠ crc (s.extract 4 (8 + (num4 s).toNat)) then (⟨#[]⟩, ⟨#[]⟩, ⟨#[]⟩, 22)
  else (s.extract 4 8, s.extract 8 (8 + (num4 s).toNat), s.extract (12 + (num4 s).toNat) s.size, 0)) := by
      intro hb
      rw [if_pos hb]
      refine Ev.step (f := fun _ => some _) (fun k => ?_) (Ev.now _)
      simp only [chunk_next.j0, if_true]
    by_cases hn : num4 s > 2147483647
    · simp only [if_pos hn]
      simpa only [if_pos hn] using hbad (.inl hn)
    · simp only [if_neg hn]
      refine Ev.bind (named_ev (s.extract 4 8) (by rw [ByteArray.size_extract]; omega)) ?_
      cases hnam : nam (s.extract 4 8) with
      | false =>
        have := hbad (.inr hnam)
        rw [hnam] at this
        exact this
      | true =>
        rw [if_neg (show ¬ (num4 s > 2147483647 ∨ true = false) by rintro (h | h); exact hn h; cases h)]
        have hes : (s.extract 8 s.size).size = s.size - 8 := by rw [ByteArray.size_extract]; omega
        have hlt : ((s.extract 8 s.size).size : Int) < wrap64 (num4 s + 4) ↔ (s.size : Int) < 12 + num4 s := by rw [hes, w64 (by omega) (by omega)]; omega
        have e1 : (s.extract 8 s.size).extract (num4 s).toNat (s.extract 8 s.size).size = s.extract (8 + (num4 s).toNat) s.size := by rw [ByteArray.extract_extract, hes]; congr 1; omega
        by_cases hq : (s.size : Int) < 12 + num4 s
        · rw [if_pos hq]
          refine Ev.step (f := fun _ => some _) (fun k => ?_) (Ev.now _)
          simp only [chunk_next.j0]
          rw [if_neg (by decide), if_pos (hlt.2 hq)]
        · rw [if_neg hq]
          have e2 : (s.extract 8 s.size).extract 0 (num4 s).toNat = s.extract 8 (8 + (num4 s).toNat) := by rw [ByteArray.extract_extract]; congr 1; omega
          have e3 : s.extract 4 8 ++ s.extract 8 (8 + (num4 s).toNat) = s.extract 4 (8 + (num4 s).toNat) := by rw [ByteArray.extract_append_extract]; congr 1; omega
          have e4 : (s.extract 8 s.size).extract (wrap64 (num4 s + 4)).toNat (s.extract 8 s.size).size = s.extract (12 + (num4 s).toNat) s.size := by rw [ByteArray.extract_extract, hes, w64 (by omega) (by omega)]; congr 1 <;> omega
          have z1 : (s.extract 4 8).size + (s.extract 8 (8 + (num4 s).toNat)).size ≤ 9223372036854775807 := by rw [ByteArray.size_extract, ByteArray.size_extract]; omega
          refine Ev.step (f := fun k => ((bits_Crc.f k (s.extract 4 (8 + (num4 s).toNat))).bind fun t110 => (if num4 (s.extract (8 + (num4 s).toNat) s.size) = t110 then some (s.extract 4 8, s.extract 8 (8 + (num4 s).toNat), s.extract (12 + (num4 s).toNat) s.size, 0) else (some ((⟨#[]⟩ : ByteArray), (⟨#[]⟩ : ByteArray), (⟨#[]⟩ : ByteArray), 22))))) (fun k => ?_) (Ev.bind (Crc_ev _ (by rw [ByteArray.size_extract]; omega)) ?_)
          · simp only [chunk_next.j0, Bool.not_true, Bool.false_eq_true, if_false]
            rw [if_neg (fun h => hq (hlt.1 h)), if_pos (by omega), if_pos (by rw [hes]; omega), e1, number_f _ (by rw [ByteArray.size_extract]; omega)]
            simp only [Option.bind_some, e2, e3]
            rw [if_pos z1]
            simp only [if_pos (show 0 ≤ wrap64 (num4 s + 4) by rw [w64 (by omega) (by omega)]; omega), if_pos (show wrap64 (num4 s + 4) ≤ ((s.extract 8 s.size).size : Int) by rw [hes, w64 (by omega) (by omega)]; omega), e4]
          · by_cases hc : num4 (s.extract (8 + (num4 s).toNat) s.size) = crc (s.extract 4 (8 + (num4 s).toNat))
            · simp only [if_pos hc]
              rw [if_neg (fun h => h hc)]
              exact Ev.now _
            · simp only [if_neg hc]
              rw [if_pos hc]
              exact Ev.now _
/-- The chunks of bytes, by at most d chunks. -/
def splitS : Nat → ByteArray → List S35 → List S35 × Int
  | 0, _, out => (out, 0)
  | d + 1, s, out => if s.size = 0 then (out, 0) else if (nextS s).2.2.2 = 0 then splitS d (nextS s).2.2.1 (out ++ [⟨(nextS s).1, (nextS s).2.1⟩]) else ([], (nextS s).2.2.2)
theorem next_rest {s : ByteArray} (h : (nextS s).2.2.2 = 0) : (nextS s).2.2.1.size + 12 ≤ s.size ∧ (nextS s).2.2.1.size ≤ s.size := by
  unfold nextS at h ⊢
  by_cases h1 : s.size < 8
  · rw [if_pos h1] at h; cases h
  · rw [if_neg h1] at h ⊢
    by_cases h2 : num4 s > 2147483647 ∨ nam (s.extract 4 8) = false
    · rw [if_pos h2] at h; cases h
    · rw [if_neg h2] at h ⊢
      by_cases h3 : (s.size : Int) < 12 + num4 s
      · rw [if_pos h3] at h; cases h
      · rw [if_neg h3] at h ⊢
        by_cases h4 : num4 (s.extract (8 + (num4 s).toNat) s.size) ≠ crc (s.extract 4 (8 + (num4 s).toNat))
        · rw [if_pos h4] at h; cases h
        · rw [if_neg h4]
          dsimp only
          have := num4_range s
          rw [ByteArray.size_extract]
          omega
theorem split_loop : ∀ (d : Nat) (s : ByteArray) (out : List S35), s.size ≤ d → s.size ≤ 140737488351232 → out.length + s.size < 4398046511104 → Ev (fun k => chunk_Split.l0 k s out) (splitS d s out) := by
  intro d
  induction d with
  | zero =>
    intro s out h1 h2 h3
    refine Ev.step (f := fun _ => some (out, 0)) (fun k => ?_) (Ev.now _)
    simp only [chunk_Split.l0]
    rw [if_pos ((toList_nil s).2 (by omega))]
  | succ d ih =>
    intro s out h1 h2 h3
    unfold splitS
    by_cases h0 : s.size = 0
    · rw [if_pos h0]
      refine Ev.step (f := fun _ => some (out, 0)) (fun k => ?_) (Ev.now _)
      simp only [chunk_Split.l0]
      rw [if_pos ((toList_nil s).2 h0)]
    · rw [if_neg h0]
      refine Ev.step (f := fun k => ((chunk_next.f k s).bind fun bt113 => (if bt113.2.2.2 = 0 then (if out.length < 4398046511104 then (chunk_Split.l0 k bt113.2.2.1 (out ++ [(⟨bt113.1, bt113.2.1⟩ : S35)])) else (none)) else (some (([] : List (S35)), bt113.2.2.2))))) (fun k => ?_) (Ev.bind (next_ev s h2) ?_)
      · simp only [chunk_Split.l0]
        rw [if_neg (fun h => h0 ((toList_nil s).1 h))]
      · by_cases he : (nextS s).2.2.2 = 0
        · simp only [if_pos he]
          have hr := next_rest he
          simp only [if_pos (show out.length < 4398046511104 by omega)]
          exact ih _ _ (by omega) (by omega) (by simp only [List.length_append, List.length_singleton]; omega)
        · simp only [if_neg he]
          exact Ev.now _
theorem rsplit_loop : ∀ (d : Nat) (s : ByteArray) (out : List S35), s.size ≤ d → s.size ≤ 140737488351232 → out.length + s.size < 4398046511104 → Ev (fun k => vitrineref07_Split.l0 k s out) (splitS d s out) := by
  intro d
  induction d with
  | zero =>
    intro s out h1 h2 h3
    refine Ev.step (f := fun _ => some (out, 0)) (fun k => ?_) (Ev.now _)
    simp only [vitrineref07_Split.l0]
    rw [if_neg (by omega)]
  | succ d ih =>
    intro s out h1 h2 h3
    unfold splitS
    by_cases h0 : s.size = 0
    · rw [if_pos h0]
      refine Ev.step (f := fun _ => some (out, 0)) (fun k => ?_) (Ev.now _)
      simp only [vitrineref07_Split.l0]
      rw [if_neg (by omega)]
    · rw [if_neg h0]
      by_cases h8 : s.size < 8
      · rw [show nextS s = (⟨#[]⟩, ⟨#[]⟩, ⟨#[]⟩, 3) from by unfold nextS; rw [if_pos h8], if_neg (by decide)]
        refine Ev.step (f := fun _ => some ([], 3)) (fun k => ?_) (Ev.now _)
        simp only [vitrineref07_Split.l0]
        rw [if_pos (by omega), if_pos (by omega)]
      · have hr := num4_range s
        have e0 : num4 (s.extract 0 4) = num4 s := by
          have := num4_extract s 0 s.size (by omega) (by omega)
          rw [ByteArray.extract_zero_size] at this
          exact this.symm
        have hbad : num4 s > 2147483647 ∨ nam (s.extract 4 8) = false → Ev (fun k => vitrineref07_Split.j2 k s out (num4 s) true) (if (nextS s).2.2.2 = 0 then splitS d (nextS s).2.2.1 (out ++ [⟨(nextS s).1, (nextS s).2.1⟩]) else ([], (nextS s).2.2.2)) := by
          intro hb
          rw [show nextS s = (⟨#[]⟩, ⟨#[]⟩, ⟨#[]⟩, 21) from by unfold nextS; rw [if_neg h8, if_pos hb], if_neg (by decide)]
          refine Ev.step (f := fun _ => some ([], 21)) (fun k => ?_) (Ev.now _)
          simp only [vitrineref07_Split.j2, if_true]
        refine Ev.step (f := fun k => ((vitrineref06_Of.f k (s.extract 0 4)).bind fun t127 => (if t127 > 2147483647 then (vitrineref07_Split.j2 k s out t127 true) else ((vitrineref07_right.f k (s.extract 4 8)).bind fun t128 => (vitrineref07_Split.j2 k s out t127 (!t128)))))) (fun k => ?_) (Ev.bind (Of_ev _ (by rw [ByteArray.size_extract]; omega)) ?_)
        · simp only [vitrineref07_Split.l0]
          rw [if_pos (by omega), if_neg (by omega)]
          simp only [if_pos (show (0 : Nat) ≤ 4 by omega), if_pos (show (4 : Int) ≤ (s.size : Int) by omega), if_pos (show (4 : Nat) ≤ 8 by omega), if_pos (show (8 : Int) ≤ (s.size : Int) by omega)]
        · rw [e0]
          by_cases hn : num4 s > 2147483647
          · simp only [if_pos hn]; exact hbad (.inl hn)
          · simp only [if_neg hn]
            refine Ev.bind (right_ev _) ?_
            cases hnam : nam (s.extract 4 8) with
            | false => exact hbad (.inr hnam)
            | true =>
              have hnb : ¬ (num4 s > 2147483647 ∨ nam (s.extract 4 8) = false) := by rw [hnam]; rintro (h | h); exact hn h; cases h
              by_cases hq : (s.size : Int) < 12 + num4 s
              · rw [show nextS s = (⟨#[]⟩, ⟨#[]⟩, ⟨#[]⟩, 3) from by unfold nextS; rw [if_neg h8, if_neg hnb, if_pos hq], if_neg (by decide)]
                refine Ev.step (f := fun _ => some ([], 3)) (fun k => ?_) (Ev.now _)
                simp only [vitrineref07_Split.j2]
                rw [if_neg (by decide), if_pos (by rw [w64 (by omega) (by omega)]; exact hq)]
              · have q1 : wrap64 (8 + num4 s) = 8 + num4 s := w64 (by omega) (by omega)
                have q2 : wrap64 (12 + num4 s) = 12 + num4 s := w64 (by omega) (by omega)
                have q3 : (8 + num4 s).toNat = 8 + (num4 s).toNat := by omega
                have q4 : (12 + num4 s).toNat = 12 + (num4 s).toNat := by omega
                have e5 : num4 (s.extract (8 + (num4 s).toNat) (12 + (num4 s).toNat)) = num4 (s.extract (8 + (num4 s).toNat) s.size) := by
                  rw [num4_extract s (8 + (num4 s).toNat) s.size (by omega) (by omega), show 8 + (num4 s).toNat + 4 = 12 + (num4 s).toNat by omega]
                refine Ev.step (f := fun k => ((vitrineref06_Of.f k (s.extract (8 + (num4 s).toNat) (12 + (num4 s).toNat))).bind fun t129 => ((vitrineref01_Crc.f k (s.extract 4 (8 + (num4 s).toNat))).bind fun t130 => (if t129 = t130 then (vitrineref07_Split.l0 k (s.extract (12 + (num4 s).toNat) s.size) (out ++ [(⟨s.extract 4 8, s.extract 8 (8 + (num4 s).toNat)⟩ : S35)])) else (some (([] : List (S35)), 22)))))) (fun k => ?_) (Ev.bind (Of_ev _ (by rw [ByteArray.size_extract]; omega)) (Ev.bind (rCrc_ev _ (by rw [ByteArray.size_extract]; omega)) ?_))
                · simp only [vitrineref07_Split.j2, Bool.not_true, Bool.false_eq_true, if_false, q1, q2, q3, q4]
                  rw [if_neg hq]
                  simp only [if_pos (show 0 ≤ 8 + num4 s by omega), if_pos (show 8 + num4 s ≤ 12 + num4 s by omega), if_pos (show 12 + num4 s ≤ (s.size : Int) by omega), if_pos (show 4 ≤ 8 + num4 s by omega), if_pos (show 8 + num4 s ≤ (s.size : Int) by omega), if_pos (show (4 : Nat) ≤ 8 by omega), if_pos (show (8 : Int) ≤ (s.size : Int) by omega), if_pos (show 8 ≤ 8 + num4 s by omega), if_pos (show out.length < 4398046511104 by omega), if_pos (show 0 ≤ 12 + num4 s by omega)]
                · rw [e5]
                  by_cases hc : num4 (s.extract (8 + (num4 s).toNat) s.size) = crc (s.extract 4 (8 + (num4 s).toNat))
                  · simp only [if_pos hc]
                    rw [show nextS s = (s.extract 4 8, s.extract 8 (8 + (num4 s).toNat), s.extract (12 + (num4 s).toNat) s.size, 0) from by unfold nextS; rw [if_neg h8, if_neg hnb, if_neg hq, if_neg (fun h => h hc)], if_pos rfl]
                    exact ih _ _ (by rw [ByteArray.size_extract]; omega) (by rw [ByteArray.size_extract]; omega) (by simp only [List.length_append, List.length_singleton]; rw [ByteArray.size_extract]; omega)
                  · simp only [if_neg hc]
                    rw [show nextS s = (⟨#[]⟩, ⟨#[]⟩, ⟨#[]⟩, 22) from by unfold nextS; rw [if_neg h8, if_neg hnb, if_neg hq, if_pos hc], if_neg (by decide)]
                    exact Ev.now _
def sig : ByteArray := ⟨#[137, 80, 78, 71, 13, 10, 26, 10]⟩
/-- The chunks of a file. -/
def splitF (file : ByteArray) : List S35 × Int := if file.size < 8 ∨ file.extract 0 8 ≠ sig then ([], 20) else splitS file.size (file.extract 8 file.size) []
theorem Split_ev (file : ByteArray) (h : file.size ≤ 1000000) : Ev (fun k => chunk_Split.f k file) (splitF file) := by
  have hp : stringslite_HasPrefix.f file sig = some (decide (¬ (file.size < 8 ∨ file.extract 0 8 ≠ sig))) := by
    unfold stringslite_HasPrefix.f
    show (if (file.size : Int) ≥ ((8 : Nat) : Int) then (if 0 ≤ ((8 : Nat) : Int) then (if ((8 : Nat) : Int) ≤ (file.size : Int) then (some ((file.extract 0 8).toList == sig.toList)) else (none)) else (none)) else (some false)) = _
    by_cases h8 : file.size < 8
    · rw [if_neg (by omega), decide_eq_false (fun hn => hn (.inl h8))]
    · rw [if_pos (by omega), if_pos (by omega), if_pos (by omega)]
      congr 1
      by_cases he : file.extract 0 8 = sig
      · rw [he, decide_eq_true (by rintro (h | h); exact h8 h; exact h rfl)]
        exact beq_self_eq_true _
      · rw [decide_eq_false (fun hn => hn (.inr he))]
        exact beq_eq_false_iff_ne.mpr (fun hh => he (toList_eq.1 hh))
  unfold chunk_Split.f strings_CutPrefix.f stringslite_CutPrefix.f
  rw [show (⟨#[137, 80, 78, 71, 13, 10, 26, 10]⟩ : ByteArray) = sig from rfl, hp]
  simp only [Option.bind_some]
  unfold splitF
  by_cases hb : file.size < 8 ∨ file.extract 0 8 ≠ sig
  · rw [if_pos hb, decide_eq_false (fun h => h hb)]
    simp only [Bool.false_eq_true, if_false, Option.bind_some]
    exact Ev.now _
  · rw [if_neg hb, decide_eq_true hb]
    have h8 : ¬ file.size < 8 := fun h => hb (.inl h)
    simp only [if_true, show (sig.size : Int) = ((8 : Nat) : Int) from rfl]
    rw [if_pos (by omega), if_pos (by omega)]
    simp only [Option.bind_some, if_true]
    exact split_loop file.size _ [] (by rw [ByteArray.size_extract]; omega) (by rw [ByteArray.size_extract]; omega) (by rw [ByteArray.size_extract]; simp only [List.length_nil]; omega)
theorem rSplit_ev (file : ByteArray) (h : file.size ≤ 1000000) : Ev (fun k => vitrineref07_Split.f k file) (splitF file) := by
  have hj : ∀ b : Bool, b = decide (file.size < 8 ∨ file.extract 0 8 ≠ sig) → Ev (fun k => vitrineref07_Split.j0 k file b) (splitF file) := by
    intro b hb
    unfold splitF
    by_cases hc : file.size < 8 ∨ file.extract 0 8 ≠ sig
    · rw [if_pos hc]
      rw [decide_eq_true hc] at hb
      subst hb
      refine Ev.step (f := fun _ => some ([], 20)) (fun k => ?_) (Ev.now _)
      simp only [vitrineref07_Split.j0, if_true]
    · rw [if_neg hc]
      rw [decide_eq_false hc] at hb
      subst hb
      have h8 : ¬ file.size < 8 := fun h => hc (.inl h)
      refine Ev.step (fun k => ?_) (rsplit_loop file.size (file.extract 8 file.size) [] (by rw [ByteArray.size_extract]; omega) (by rw [ByteArray.size_extract]; omega) (by rw [ByteArray.size_extract]; simp only [List.length_nil]; omega))
      simp only [vitrineref07_Split.j0]
      rw [if_neg (by decide), if_pos (by omega)]
  unfold vitrineref07_Split.f
  by_cases h8 : file.size < 8
  · simp only [if_pos (show (file.size : Int) < 8 by omega)]
    exact hj true (by rw [decide_eq_true (.inl h8)])
  · simp only [if_neg (show ¬ (file.size : Int) < 8 by omega), if_pos (show (0 : Nat) ≤ 8 by omega), if_pos (show (8 : Int) ≤ (file.size : Int) by omega)]
    refine hj _ ?_
    rw [show ([137, 80, 78, 71, 13, 10, 26, 10] : List UInt8) = sig.toList from by rw [toList_data]; rfl]
    by_cases he : file.extract 0 8 = sig
    · rw [he, decide_eq_false (by rintro (h | h); exact h8 h; exact h rfl)]
      exact bne_self_eq_false _
    · rw [decide_eq_true (.inr he)]
      exact bne_iff_ne.mpr (fun hh => he (toList_eq.1 hh))
/-- A chunk's bytes. -/
def enc (c : S35) : ByteArray := be4 (c.f1.size : Int) ++ (c.f0 ++ c.f1) ++ be4 (crc (c.f0 ++ c.f1))
def good (c : S35) : Bool := nam c.f0 && decide (c.f1.size ≤ 2147483647)
/-- Chunks joined behind what is there. -/
def joinS : List S35 → ByteArray → ByteArray × Int
  | [], acc => (acc, 0)
  | c :: cs, acc => if good c = true then joinS cs (acc ++ enc c) else (⟨#[]⟩, 21)
def tot : List S35 → Nat
  | [] => 0
  | c :: cs => 12 + c.f1.size + c.f0.size + tot cs
theorem enc_size (c : S35) : (enc c).size = 8 + c.f0.size + c.f1.size := by
  unfold enc
  rw [ByteArray.size_append, ByteArray.size_append, ByteArray.size_append, be4_size, be4_size]
  omega
theorem big_f (n : Int) : chunk_big.f n = some (be4 n) := rfl
theorem rd35_at (l : List S35) (i : Nat) (h : i < l.length) : rd_T35 l (i : Int) = l[i] := by
  unfold rd_T35
  rw [List.getD_eq_getElem?_getD, Int.toNat_natCast, List.getElem?_eq_getElem h]
  rfl
theorem join_loop (l : List S35) (hl : l.length ≤ 4611686018427387904) : ∀ (d i : Nat) (acc : ByteArray), i + d = l.length → acc.size + tot (l.drop i) ≤ 1000000 → Ev (fun k => chunk_Join.l0 k l (l.length : Int) (i : Int) acc) (joinS (l.drop i) acc) := by
  intro d
  induction d with
  | zero =>
    intro i acc hi ht
    rw [List.drop_of_length_le (by omega)]
    refine Ev.step (f := fun _ => some (acc, 0)) (fun k => ?_) (Ev.now _)
    simp only [chunk_Join.l0]
    rw [if_neg (by omega)]
    rfl
  | succ d ih =>
    intro i acc hi ht
    have hlt : i < l.length := by omega
    have hr := rd35_at l i hlt
    have hw := w_succ (i := i) (by omega)
    rw [List.drop_eq_getElem_cons hlt] at ht ⊢
    have ih2 := ih (i + 1)
    generalize l[i] = c at *
    unfold tot at ht
    have hbad : good c = false → Ev (fun k => chunk_Join.j1 k l (l.length : Int) (i : Int) true acc c.f0 c.f1) (joinS (c :: l.drop (i + 1)) acc) := by
      intro hg
      rw [show joinS (c :: l.drop (i + 1)) acc = (⟨#[]⟩, 21) from by show (if good c = true then _ else _) = _; rw [hg]; rfl]
      refine Ev.step (f := fun _ => some (⟨#[]⟩, 21)) (fun k => ?_) (Ev.now _)
      simp only [chunk_Join.j1, if_true]
    refine Ev.step (f := fun k => ((chunk_named.f k c.f0).bind fun t132 => (if t132 = true then (chunk_Join.j1 k l (l.length : Int) (i : Int) (decide ((c.f1.size : Int) > 2147483647)) acc c.f0 c.f1) else (chunk_Join.j1 k l (l.length : Int) (i : Int) true acc c.f0 c.f1)))) (fun k => ?_) (Ev.bind (named_ev c.f0 (by omega)) ?_)
    · simp only [chunk_Join.l0]
      rw [if_pos (by omega), if_pos (by omega), if_pos (by omega), hr]
    · cases hn : nam c.f0 with
      | false =>
        simp only [Bool.false_eq_true, if_false]
        exact hbad (by unfold good; rw [hn]; rfl)
      | true =>
        simp only [if_true]
        have hg : good c = true := by unfold good; rw [hn, decide_eq_true (by omega)]; rfl
        rw [decide_eq_false (by omega), show joinS (c :: l.drop (i + 1)) acc = joinS (l.drop (i + 1)) (acc ++ enc c) from by show (if good c = true then _ else _) = _; rw [hg]; rfl]
        have he := enc_size c
        have z1 : c.f0.size + c.f1.size ≤ 9223372036854775807 := by omega
        have z2 : (be4 (c.f1.size : Int)).size + (c.f0 ++ c.f1).size ≤ 9223372036854775807 := by rw [be4_size, ByteArray.size_append]; omega
        have z3 : (be4 (c.f1.size : Int) ++ (c.f0 ++ c.f1)).size + (be4 (crc (c.f0 ++ c.f1))).size ≤ 9223372036854775807 := by rw [ByteArray.size_append, ByteArray.size_append, be4_size, be4_size]; omega
        have z4 : acc.size + (enc c).size ≤ 140737488355328 := by omega
        refine Ev.step (f := fun k => ((bits_Crc.f k (c.f0 ++ c.f1)).bind fun t134 => ((chunk_big.f t134).bind fun t135 => (if (be4 (c.f1.size : Int) ++ (c.f0 ++ c.f1)).size + t135.size ≤ 9223372036854775807 then ((strings_Builder_WriteString.f acc ((be4 (c.f1.size : Int) ++ (c.f0 ++ c.f1)) ++ t135)).bind fun bt136 => (chunk_Join.l0 k l (l.length : Int) ((i + 1 : Nat) : Int) bt136.2.2)) else (none))))) (fun k => ?_) (Ev.bind (Crc_ev _ (by rw [ByteArray.size_append]; omega)) ?_)
        · simp only [chunk_Join.j1, Bool.false_eq_true, if_false]
          rw [if_pos z1, big_f]
          simp only [Option.bind_some]
          rw [if_pos z2, hw]
        · simp only [big_f, Option.bind_some]
          simp only [if_pos z3]
          unfold strings_Builder_WriteString.f
          simp only [show acc.size + (be4 (c.f1.size : Int) ++ (c.f0 ++ c.f1) ++ be4 (crc (c.f0 ++ c.f1))).size ≤ 140737488355328 from z4, if_true, Option.bind_some]
          exact ih2 (acc ++ enc c) (by omega) (by rw [ByteArray.size_append]; omega)
theorem Join_ev (l : List S35) (hl : l.length ≤ 4611686018427387904) (ht : tot l ≤ 900000) : Ev (fun k => chunk_Join.f k l) (joinS l sig) := by
  unfold chunk_Join.f
  rw [show strings_Builder_WriteString.f (⟨#[]⟩ : ByteArray) (⟨#[137, 80, 78, 71, 13, 10, 26, 10]⟩ : ByteArray) = some (8, none, sig) from by
    unfold strings_Builder_WriteString.f
    rw [if_pos (by decide)]
    rfl]
  simp only [Option.bind_some]
  exact join_loop l hl l.length 0 sig (by omega) (by rw [List.drop_zero]; show 8 + _ ≤ _; omega)
theorem few_loop (l : List S35) (hl : l.length ≤ 4611686018427387904) (hs : ∀ c ∈ l, okS35 c) : ∀ (d i n : Nat), i + d = l.length → n ≤ 100000 → ∃ b, Ev (fun k => vitrinelaw07_few.l0 k l (n : Int) (i : Int)) b ∧ (b = true → n + tot (l.drop i) ≤ 100000) := by
  intro d
  induction d with
  | zero =>
    intro i n hi hn
    refine ⟨true, ?_, fun _ => ?_⟩
    · refine Ev.step (f := fun _ => some true) (fun k => ?_) (Ev.now _)
      simp only [vitrinelaw07_few.l0]
      rw [if_neg (by omega)]
    · rw [List.drop_of_length_le (by omega)]
      exact hn
  | succ d ih =>
    intro i n hi hn
    have hlt : i < l.length := by omega
    have hr := rd35_at l i hlt
    have hw := w_succ (i := i) (by omega)
    obtain ⟨o1, o2⟩ : (l[i]).f0.size ≤ 140737488351232 ∧ (l[i]).f1.size ≤ 140737488351232 := hs _ (List.getElem_mem hlt)
    have ih2 := ih (i + 1)
    rw [List.drop_eq_getElem_cons hlt]
    generalize l[i] = c at *
    have e : wrap64 ((wrap64 ((wrap64 ((n : Int) + 12)) + (c.f1.size : Int))) + (c.f0.size : Int)) = ((n + 12 + c.f1.size + c.f0.size : Nat) : Int) := by
      rw [w64 (x := (n : Int) + 12) (by omega) (by omega), w64 (x := (n : Int) + 12 + (c.f1.size : Int)) (by omega) (by omega), w64 (by omega) (by omega)]
      omega
    by_cases hb : n + 12 + c.f1.size + c.f0.size > 100000
    · refine ⟨false, ?_, fun h => by cases h⟩
      refine Ev.step (f := fun _ => some false) (fun k => ?_) (Ev.now _)
      simp only [vitrinelaw07_few.l0]
      rw [if_pos (by omega), if_pos (by omega), hr, e, if_pos (by omega)]
    · obtain ⟨b, h1, h2⟩ := ih2 (n + 12 + c.f1.size + c.f0.size) (by omega) (by omega)
      refine ⟨b, ?_, fun h => ?_⟩
      · refine Ev.step (fun k => ?_) h1
        simp only [vitrinelaw07_few.l0]
        rw [if_pos (by omega), if_pos (by omega), hr, e, if_neg (by omega), hw]
      · have := h2 h
        unfold tot
        omega
theorem few_ev (l : List S35) (hl : l.length ≤ 4611686018427387904) (hs : ∀ c ∈ l, okS35 c) : ∃ b, Ev (fun k => vitrinelaw07_few.f k l) b ∧ (b = true → tot l ≤ 100000) := by
  obtain ⟨b, h1, h2⟩ := few_loop l hl hs l.length 0 0 (by omega) (by omega)
  refine ⟨b, ?_, fun h => ?_⟩
  · unfold vitrinelaw07_few.f
    exact h1
  · have := h2 h
    rw [List.drop_zero] at this
    omega
theorem chunks_loop (l : List S35) (hl : l.length ≤ 4611686018427387904) : ∀ d i : Nat, i + d = l.length → Ev (fun k => vitrinelaw07_chunks.l0 k l l (i : Int)) true := by
  intro d
  induction d with
  | zero =>
    intro i hi
    refine Ev.step (f := fun _ => some true) (fun k => ?_) (Ev.now _)
    simp only [vitrinelaw07_chunks.l0]
    rw [if_neg (by omega)]
  | succ d ih =>
    intro i hi
    have hw := w_succ (i := i) (by omega)
    refine Ev.step (fun k => ?_) (ih (i + 1) (by omega))
    simp only [vitrinelaw07_chunks.l0]
    rw [if_pos (by omega), if_pos (by omega), if_pos (by omega), if_neg (by simp), hw]
theorem chunks_ev (l : List S35) (hl : l.length ≤ 4611686018427387904) : Ev (fun k => vitrinelaw07_chunks.f k l l) true := by
  unfold vitrinelaw07_chunks.f
  simp only [if_true]
  exact chunks_loop l hl l.length 0 (by omega)
theorem splitS_len : ∀ (d : Nat) (s : ByteArray) (out : List S35), (splitS d s out).1.length ≤ out.length + d
  | 0, _, _ => Nat.le_refl _
  | d + 1, s, out => by
    unfold splitS
    by_cases h0 : s.size = 0
    · rw [if_pos h0]; exact Nat.le_add_right _ _
    · rw [if_neg h0]
      by_cases he : (nextS s).2.2.2 = 0
      · rw [if_pos he]
        have := splitS_len d (nextS s).2.2.1 (out ++ [⟨(nextS s).1, (nextS s).2.1⟩])
        rw [List.length_append, List.length_singleton] at this
        omega
      · rw [if_neg he]; exact Nat.zero_le _
theorem splitF_len (file : ByteArray) : (splitF file).1.length ≤ file.size := by
  unfold splitF
  split
  · exact Nat.zero_le _
  · exact Nat.le_trans (splitS_len _ _ _) (by simp)

end Go.Proofs.Ytfgbfbhllbejpaa.Pure
