/- What a manifest says by the document's answer, plain. -/
import Derived.Test.YtnimhhhbefpifaaPL20x10
import Derived.Test.YtnimhhhbefpifaaPL20x11
import Derived.Test.YtnimhhhbefpifaaPL20x12
import Derived.Test.YtnimhhhbefpifaaPL20x13
import Derived.Test.YtnimhhhbefpifaaPureRedP
import Derived.Test.YtnimhhhbefpifaaPureRg0
namespace Go.Proofs.Ytnimhhhbefpifaa.Pure
open Go.RowKit Go.Proofs.YtnimhhhbefpifaaW.PrintWords Go.Proofs.YtnimhhhbefpifaaW.PrintLast Go.Proofs.YtnimhhhbefpifaaW.PrintMore Go.Proofs.Ytnimhhhbefpifaa.PL20
set_option linter.unusedVariables false
set_option linter.unusedSimpArgs false
theorem rR20 (W H : Int) : Ev (fun k => vitrineref08_Right.f k W H 16 6 0) (rgt W H 16 6 0) := by
  have hd : dep 6 16 := by decide
  have h24 : Ev (fun k => vitrineref08_Right.j2 k true W H 16 6 0) 24 := by
    refine Ev.step (f := fun _ => some 24) (fun k => ?_) (Ev.now _)
    simp only [vitrineref08_Right.j2, if_true]
  have h1 : Ev (fun k => vitrineref08_Right.j1 k true W H 16 6 0) (rgt W H 16 6 0) := by
    unfold rgt
    by_cases c1 : W < 1
    · rw [if_neg (by omega)]
      refine Ev.step (fun k => ?_) h24
      simp only [vitrineref08_Right.j1]; rw [if_pos c1]
    · by_cases c2 : W > 2147483647
      · rw [if_neg (by omega)]
        refine Ev.step (fun k => ?_) h24
        simp only [vitrineref08_Right.j1]; rw [if_neg c1, if_pos c2]
      · by_cases c3 : H < 1
        · rw [if_neg (by omega)]
          refine Ev.step (fun k => ?_) h24
          simp only [vitrineref08_Right.j1]; rw [if_neg c1, if_neg c2, if_pos c3]
        · by_cases c4 : H > 2147483647
          · rw [if_neg (by omega)]
            refine Ev.step (fun k => ?_) h24
            simp only [vitrineref08_Right.j1]; rw [if_neg c1, if_neg c2, if_neg c3, if_pos c4]
          · rw [if_pos ⟨by omega, by omega, by omega, by omega, hd, .inl rfl⟩]
            refine Ev.step (f := fun k => vitrineref08_Right.j2 k false W H 16 6 0) (fun k => ?_) ?_
            · simp only [vitrineref08_Right.j1]; rw [if_neg c1, if_neg c2, if_neg c3, if_neg c4, if_pos trivial, if_pos trivial]
            · have hw := rgt_area (W := W) (H := H) (by omega) (by omega) (by omega) (by omega)
              by_cases c5 : W > 1024
              · rw [if_pos (.inl c5)]
                refine Ev.step (f := fun _ => some 5) (fun k => ?_) (Ev.now _)
                simp only [vitrineref08_Right.j2]; rw [if_neg (by decide), if_pos c5]
              · by_cases c6 : H > 1024
                · rw [if_pos (.inr (.inl c6))]
                  refine Ev.step (f := fun _ => some 5) (fun k => ?_) (Ev.now _)
                  simp only [vitrineref08_Right.j2]; rw [if_neg (by decide), if_neg c5, if_pos c6]
                · by_cases c7 : W * H > 4096
                  · rw [if_pos (.inr (.inr c7))]
                    refine Ev.step (f := fun _ => some 5) (fun k => ?_) (Ev.now _)
                    simp only [vitrineref08_Right.j2]; rw [if_neg (by decide), if_neg c5, if_neg c6, hw, if_pos c7]
                  · rw [if_neg (by omega)]
                    refine Ev.step (f := fun _ => some 0) (fun k => ?_) (Ev.now _)
                    simp only [vitrineref08_Right.j2]; rw [if_neg (by decide), if_neg c5, if_neg c6, hw, if_neg c7]
  refine Ev.congr (f := fun k => vitrineref08_Right.j0 k 16 false W H 16 6 0) (fun k => ?_) ?_
  · unfold vitrineref08_Right.f
    rw [if_neg (by decide), if_neg (by decide)]
    rfl
  · refine Ev.step (fun k => ?_) h1
    simp only [vitrineref08_Right.j0]
    rw [if_neg (by decide), if_neg (by decide), if_neg (by decide), if_neg (by decide), if_pos trivial, if_neg (by decide)]
    rfl
theorem rRead_loop {m : ByteArray} (w h : Int) (h0 : 1 ≤ h) (h1 : h ≤ 1024) (hm : m.size = 8 + 32 * mb h.toNat) : ∀ d i : Nat, i + d = mb h.toNat → Ev (fun k => vitrineref15_Read.l0 k m w h (hashL m i) (i : Int)) (w, h, hashL m (mb h.toNat), 0) := by
  have hM := mb_1000 h1
  have hmany : vitrineref15_Many.f h = some ((mb h.toNat : Nat) : Int) := by
    unfold vitrineref15_Many.f
    rw [many15 h0 h1]
  generalize mb h.toNat = M at *
  intro d
  induction d with
  | zero =>
    intro i hi
    obtain rfl : i = M := by omega
    refine Ev.step (f := fun _ => some (w, h, hashL m i, 0)) (fun k => ?_) (Ev.now _)
    simp only [vitrineref15_Read.l0, hmany, Option.bind_some]
    rw [if_neg (by omega)]
  | succ d ih =>
    intro i hi
    have e0 : wrap64 (32 * (i : Int)) = ((32 * i : Nat) : Int) := by rw [w64 (by omega) (by omega)]; omega
    have e1 : wrap64 (8 + ((32 * i : Nat) : Int)) = ((8 + 32 * i : Nat) : Int) := by rw [w64 (by omega) (by omega)]; omega
    have e2 : wrap64 (40 + ((32 * i : Nat) : Int)) = ((40 + 32 * i : Nat) : Int) := by rw [w64 (by omega) (by omega)]; omega
    have w1 : wrap64 ((i : Int) + 1) = ((i + 1 : Nat) : Int) := w_succ (by omega)
    refine Ev.step (fun k => ?_) (ih (i + 1) (by omega))
    simp only [vitrineref15_Read.l0, hmany, Option.bind_some]
    rw [if_pos (by omega), e0, e1, e2, if_pos (by omega), if_pos (by omega), if_pos (by omega), if_pos (by rw [hashL_len]; omega), Int.toNat_natCast, Int.toNat_natCast, ← hashL_succ, w1]
theorem rRead_ev (m : ByteArray) (hs : m.size ≤ 4611686018427387904) : Ev (fun k => vitrineref15_Read.f k m) (redV m) := by
  have jt : ∀ a b, ¬ redOk m → Ev (fun k => vitrineref15_Read.j0 k m a b true) (redV m) := by
    intro a b hn
    refine Ev.step (f := fun _ => some (0, 0, ([] : List ByteArray), 42)) (fun k => ?_) (ev_same (Ev.now _) (redV_bad hn).symm)
    simp only [vitrineref15_Read.j0, if_true]
  by_cases h8 : (m.size : Int) < 8
  · refine Ev.congr (f := fun _ => some (0, 0, ([] : List ByteArray), 42)) (fun k => ?_) (ev_same (Ev.now _) (redV_bad (fun h => by have := h.1; omega)).symm)
    unfold vitrineref15_Read.f
    rw [if_pos h8]
  · have n1 : num4 (m.extract 0 4) = num4 m := by
      have := num4_extract m 0 m.size (by omega) (by omega)
      rw [ByteArray.extract_zero_size] at this
      rw [this]
    refine Ev.congr (f := fun k => (vitrineref06_Of.f k (m.extract 0 4)).bind fun t336 => ((vitrineref06_Of.f k (m.extract 4 8)).bind fun t337 => ((vitrineref08_Right.f k t336 t337 16 6 0).bind fun t338 => (if t338 = 0 then ((vitrineref15_Many.f t337).bind fun t339 => (vitrineref15_Read.j0 k m t336 t337 ((m.size : Int) != (wrap64 (8 + (wrap64 (32 * t339))))))) else (vitrineref15_Read.j0 k m t336 t337 true))))) (fun k => ?_) ?_
    · unfold vitrineref15_Read.f
      rw [if_neg h8, if_pos (by decide), if_pos (by omega)]
      simp only [if_pos (show (4 : Nat) ≤ 8 by decide), if_pos (show (8 : Int) ≤ (m.size : Int) by omega)]
    · refine Ev.bind (f := fun k t336 => ((vitrineref06_Of.f k (m.extract 4 8)).bind fun t337 => ((vitrineref08_Right.f k t336 t337 16 6 0).bind fun t338 => (if t338 = 0 then ((vitrineref15_Many.f t337).bind fun t339 => (vitrineref15_Read.j0 k m t336 t337 ((m.size : Int) != (wrap64 (8 + (wrap64 (32 * t339))))))) else (vitrineref15_Read.j0 k m t336 t337 true))))) (Of_ev _ (by rw [ByteArray.size_extract]; omega)) ?_
      rw [n1]
      refine Ev.bind (f := fun k t337 => ((vitrineref08_Right.f k (num4 m) t337 16 6 0).bind fun t338 => (if t338 = 0 then ((vitrineref15_Many.f t337).bind fun t339 => (vitrineref15_Read.j0 k m (num4 m) t337 ((m.size : Int) != (wrap64 (8 + (wrap64 (32 * t339))))))) else (vitrineref15_Read.j0 k m (num4 m) t337 true)))) (Of_ev _ (by rw [ByteArray.size_extract]; omega)) ?_
      obtain ⟨w, hw⟩ : ∃ w, num4 m = w := ⟨_, rfl⟩
      obtain ⟨h, hh⟩ : ∃ h, num4 (m.extract 4 8) = h := ⟨_, rfl⟩
      rw [hw, hh]
      refine Ev.bind (f := fun k t338 => (if t338 = 0 then ((vitrineref15_Many.f h).bind fun t339 => (vitrineref15_Read.j0 k m w h ((m.size : Int) != (wrap64 (8 + (wrap64 (32 * t339))))))) else (vitrineref15_Read.j0 k m w h true))) (rR20 w h) ?_
      by_cases hr : rgt w h 16 6 0 = 0
      · simp only [if_pos hr]
        obtain ⟨a, b, c, d, e⟩ := (rgt_iff _ _).1 hr
        have hM := mb_1000 d
        have hmany : vitrineref15_Many.f h = some ((mb h.toNat : Nat) : Int) := by
          unfold vitrineref15_Many.f
          rw [many15 c d]
        rw [hmany]
        simp only [Option.bind_some]
        rw [w64 (x := 32 * ((mb h.toNat : Nat) : Int)) (by omega) (by omega), w64 (x := 8 + 32 * ((mb h.toNat : Nat) : Int)) (by omega) (by omega)]
        by_cases c5 : m.size = 8 + 32 * mb h.toNat
        · have hok : redOk m := ⟨by omega, by rw [hw, hh]; exact hr, by rw [hh]; exact c5⟩
          have e5 : ((m.size : Int) != 8 + 32 * ((mb h.toNat : Nat) : Int)) = false := bne_eq_false_iff_eq.mpr (by omega)
          rw [e5]
          refine Ev.step (fun k => ?_) (ev_same (rRead_loop w h c d c5 (mb h.toNat) 0 (by omega)) ?_)
          · simp only [vitrineref15_Read.j0]
            rw [if_neg (by decide)]
            rfl
          · unfold redV
            rw [if_pos hok, hw, hh]
        · have e5 : ((m.size : Int) != 8 + 32 * ((mb h.toNat : Nat) : Int)) = true := bne_iff_ne.mpr (by omega)
          rw [e5]
          exact jt _ _ (fun hr => c5 (by have := hr.2.2; rw [hh] at this; exact this))
      · simp only [if_neg hr]
        exact jt _ _ (fun ho => hr (by have := ho.2.1; rw [hw, hh] at this; exact this))
theorem redV_len (m : ByteArray) (h : m.size ≤ 4611686018427387904) : (redV m).2.2.1.length ≤ 4611686018427387904 := by
  unfold redV
  by_cases hc : redOk m
  · rw [if_pos hc]
    show (hashL m _).length ≤ _
    rw [hashL_len]
    have := hc.2.2
    omega
  · rw [if_neg hc]
    simp

end Go.Proofs.Ytnimhhhbefpifaa.Pure
