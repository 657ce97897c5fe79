/- Which texts may be names, plain: by the program and by the document's answer. Condition: strings as long as the model allows. -/
import Derived.Test.YtnimhhhbefpifaaPL20x3
import Derived.Test.YtnimhhhbefpifaaPL20x10
import Derived.Test.YtnimhhhbefpifaaPureBase
import Derived.Test.YtnimhhhbefpifaaPureNum4
namespace Go.Proofs.Ytnimhhhbefpifaa.Pure
open Go.RowKit Go.Proofs.YtnimhhhbefpifaaW.PrintWords Go.Proofs.YtnimhhhbefpifaaW.PrintLast Go.Proofs.YtnimhhhbefpifaaW.PrintMore Go.Proofs.Ytnimhhhbefpifaa.PL20
set_option linter.unusedVariables false
set_option linter.unusedSimpArgs false
/-- Is a byte none of a name? -/
def bad1 (s : ByteArray) (i : Nat) : Bool := decide (bt s (i : Int) ≤ 32) || decide (bt s (i : Int) > 126)
/-- Is one of the first n bytes none of a name? -/
def badN (s : ByteArray) : Nat → Bool
  | 0 => false
  | n + 1 => badN s n || bad1 s n
theorem badN_of {s : ByteArray} {i : Nat} (h : bad1 s i = true) : ∀ {n : Nat}, i < n → badN s n = true
  | 0, hi => absurd hi (by omega)
  | n + 1, hi => by
    unfold badN
    by_cases e : i = n
    · subst e
      rw [h, Bool.or_true]
    · rw [badN_of h (show i < n by omega), Bool.true_or]
/-- What is wrong with a name: 0: nothing. -/
def namV (s : ByteArray) : Int := if s.size = 0 ∨ s.size > 32 ∨ badN s s.size = true then 40 else 0
theorem Name_loop (s : ByteArray) (hs : s.size ≤ 4611686018427387904) (b : Bool) : ∀ d i : Nat, i + d = s.size → Ev (fun k => bands_Name.l0 k s (b || badN s i) (s.size : Int) (i : Int)) (if (b || badN s s.size) = true then 40 else 0) := by
  intro d
  induction d with
  | zero =>
    intro i hi
    obtain rfl : i = s.size := by omega
    refine Ev.step (f := fun _ => if (b || badN s s.size) = true then some 40 else some 0) (fun k => ?_) ⟨0, fun _ _ => by split <;> rfl⟩
    simp only [bands_Name.l0]
    rw [if_neg (by omega)]
  | succ d ih =>
    intro i hi
    have w1 : wrap64 ((i : Int) + 1) = ((i + 1 : Nat) : Int) := w_succ (by omega)
    have h := ih (i + 1) (by omega)
    by_cases hb : (b || badN s i) = true
    · refine Ev.step (fun k => ?_) h
      simp only [bands_Name.l0]
      rw [if_pos (by omega), if_pos hb, w1]
      rw [show (b || badN s (i + 1)) = true by unfold badN; rw [← Bool.or_assoc, hb, Bool.true_or]]
    · have hf : (b || badN s i) = false := by simpa using hb
      have e : (b || badN s (i + 1)) = bad1 s i := by unfold badN; rw [← Bool.or_assoc, hf, Bool.false_or]
      rw [e] at h
      refine Ev.step (fun k => ?_) h
      simp only [bands_Name.l0]
      rw [if_pos (by omega), if_neg hb, if_pos (by omega), if_pos (by omega), w1]
      unfold bad1
      by_cases h32 : bt s (i : Int) ≤ 32
      · rw [if_pos h32, decide_eq_true h32, Bool.true_or]
      · rw [if_neg h32, decide_eq_false h32, Bool.false_or]
theorem Name_ev (s : ByteArray) (hs : s.size ≤ 4611686018427387904) : Ev (fun k => bands_Name.f k s) (namV s) := by
  have hj : ∀ b : Bool, Ev (fun k => bands_Name.j0 k s b) (if (b || badN s s.size) = true then 40 else 0) := by
    intro b
    refine Ev.step (fun k => ?_) (Name_loop s hs b s.size 0 (by omega))
    simp only [bands_Name.j0]
    show _ = bands_Name.l0 k s (b || false) (s.size : Int) 0
    rw [Bool.or_false]
  unfold bands_Name.f namV
  by_cases h0 : s.toList = []
  · simp only [if_pos h0]
    refine ev_same (hj true) ?_
    rw [Bool.true_or, if_pos rfl, if_pos (.inl ((toList_nil s).1 h0))]
  · have hn : ¬ s.size = 0 := fun e => h0 ((toList_nil s).2 e)
    simp only [if_neg h0]
    refine ev_same (hj _) ?_
    by_cases h32 : s.size > 32
    · rw [decide_eq_true (by omega), Bool.true_or, if_pos rfl, if_pos (.inr (.inl h32))]
    · rw [decide_eq_false (by omega), Bool.false_or]
      by_cases hb : badN s s.size = true
      · rw [if_pos hb, if_pos (.inr (.inr hb))]
      · rw [if_neg hb, if_neg (by rintro (h | h | h); exact hn h; exact h32 h; exact hb h)]
theorem rName_loop (s : ByteArray) (hs : s.size ≤ 4611686018427387904) : ∀ d i : Nat, i + d = s.size → badN s i = false → Ev (fun k => vitrineref15_Name.l0 k s (i : Int)) (if badN s s.size = true then 40 else 0) := by
  intro d
  induction d with
  | zero =>
    intro i hi hf
    obtain rfl : i = s.size := by omega
    refine Ev.step (f := fun _ => some 0) (fun k => ?_) (ev_same (Ev.now _) (by rw [hf]; rfl))
    simp only [vitrineref15_Name.l0]
    rw [if_neg (by omega)]
  | succ d ih =>
    intro i hi hf
    have w1 : wrap64 ((i : Int) + 1) = ((i + 1 : Nat) : Int) := w_succ (by omega)
    by_cases hb : bad1 s i = true
    · rw [badN_of hb (show i < s.size by omega)]
      refine Ev.step (f := fun _ => some 40) (fun k => ?_) (Ev.now _)
      simp only [vitrineref15_Name.l0]
      rw [if_pos (by omega), if_pos (by omega)]
      unfold bad1 at hb
      by_cases h1 : bt s (i : Int) < 33
      · rw [if_pos h1]
      · rw [if_neg h1]
        rw [decide_eq_false (by omega), Bool.false_or] at hb
        rw [if_pos (of_decide_eq_true hb)]
    · have hbf : bad1 s i = false := by simpa using hb
      refine Ev.step (fun k => ?_) (ih (i + 1) (by omega) (by unfold badN; rw [hf, hbf]; rfl))
      unfold bad1 at hbf
      rw [Bool.or_eq_false_iff, decide_eq_false_iff_not, decide_eq_false_iff_not] at hbf
      simp only [vitrineref15_Name.l0]
      rw [if_pos (by omega), if_pos (by omega), if_neg (by omega), if_neg (by omega), w1]
theorem rName_ev (s : ByteArray) (hs : s.size ≤ 4611686018427387904) : Ev (fun k => vitrineref15_Name.f k s) (namV s) := by
  have hj : Ev (fun k => vitrineref15_Name.j0 k s false) (if badN s s.size = true then 40 else 0) := by
    refine Ev.step (fun k => ?_) (rName_loop s hs s.size 0 (by omega) rfl)
    simp only [vitrineref15_Name.j0]
    rw [if_neg (by decide)]
    rfl
  have hj1 : Ev (fun k => vitrineref15_Name.j0 k s true) 40 := by
    refine Ev.step (f := fun _ => some 40) (fun k => ?_) (Ev.now _)
    simp only [vitrineref15_Name.j0, if_true]
  unfold vitrineref15_Name.f namV
  by_cases h0 : s.toList = []
  · simp only [if_pos h0]
    refine ev_same hj1 ?_
    rw [if_pos (.inl ((toList_nil s).1 h0))]
  · have hn : ¬ s.size = 0 := fun e => h0 ((toList_nil s).2 e)
    simp only [if_neg h0]
    by_cases h32 : s.size > 32
    · rw [decide_eq_true (by omega)]
      exact ev_same hj1 (by rw [if_pos (.inr (.inl h32))])
    · rw [decide_eq_false (by omega)]
      refine ev_same hj ?_
      by_cases hb : badN s s.size = true
      · rw [if_pos hb, if_pos (.inr (.inr hb))]
      · rw [if_neg hb, if_neg (by rintro (h | h | h); exact hn h; exact h32 h; exact hb h)]

end Go.Proofs.Ytnimhhhbefpifaa.Pure
