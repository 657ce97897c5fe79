/- What a manifest says, plain: by the program and by the document's answer. Condition: strings as long as the model allows. -/
import Derived.Test.YtnimhhhbefpifaaPL20x3
import Derived.Test.YtnimhhhbefpifaaPL20x4
import Derived.Test.YtnimhhhbefpifaaPureMb
namespace Go.Proofs.Ytnimhhhbefpifaa.Pure
open Go.RowKit Go.Proofs.YtnimhhhbefpifaaW.PrintWords Go.Proofs.YtnimhhhbefpifaaW.PrintLast Go.Proofs.YtnimhhhbefpifaaW.PrintMore Go.Proofs.Ytnimhhhbefpifaa.PL20
set_option linter.unusedVariables false
set_option linter.unusedSimpArgs false
theorem number15 (s : ByteArray) (h : 4 ≤ s.size) : bands_number.f s = some (num4 s) := by
  unfold bands_number.f
  rw [if_pos (by omega), if_pos (by omega), if_pos (by omega), if_pos (by omega), or4]
theorem rgt_iff (W H : Int) : rgt W H 16 6 0 = 0 ↔ (1 ≤ W ∧ W ≤ 1024 ∧ 1 ≤ H ∧ H ≤ 1024 ∧ W * H ≤ 4096) := by
  constructor
  · intro h
    obtain ⟨a, b, c, d, e, _⟩ := rgt_0 h
    exact ⟨a, b, c, d, e⟩
  · rintro ⟨a, b, c, d, e⟩
    unfold rgt
    rw [if_pos ⟨a, by omega, c, by omega, by decide, .inl rfl⟩, if_neg (by omega)]
def hashL (m : ByteArray) (n : Nat) : List ByteArray := (List.range n).map fun i => m.extract (8 + 32 * i) (40 + 32 * i)
theorem hashL_succ (m : ByteArray) (n : Nat) : hashL m (n + 1) = hashL m n ++ [m.extract (8 + 32 * n) (40 + 32 * n)] := by
  unfold hashL
  rw [List.range_succ, List.map_append]
  rfl
theorem hashL_len (m : ByteArray) (n : Nat) : (hashL m n).length = n := by unfold hashL; simp
def redOk (m : ByteArray) : Prop := 8 ≤ m.size ∧ rgt (num4 m) (num4 (m.extract 4 8)) 16 6 0 = 0 ∧ m.size = 8 + 32 * mb (num4 (m.extract 4 8)).toNat
instance (m : ByteArray) : Decidable (redOk m) := by unfold redOk; infer_instance
def redV (m : ByteArray) : Int × Int × List ByteArray × Int := if redOk m then (num4 m, num4 (m.extract 4 8), hashL m (mb (num4 (m.extract 4 8)).toNat), 0) else (0, 0, [], 42)
theorem redV_bad {m : ByteArray} (h : ¬ redOk m) : redV m = (0, 0, [], 42) := by unfold redV; rw [if_neg h]
theorem Read_loop {m : ByteArray} {M : Nat} (w h : Int) (hm : m.size = 8 + 32 * M) (hM : M ≤ 1000) : ∀ d i : Nat, i + d = M → Ev (fun k => bands_Read.l0 k w h (m.extract (8 + 32 * i) m.size) (hashL m i)) (w, h, hashL m M, 0) := by
  intro d
  induction d with
  | zero =>
    intro i hi
    obtain rfl : i = M := by omega
    refine Ev.step (f := fun _ => some (w, h, hashL m i, 0)) (fun k => ?_) (Ev.now _)
    simp only [bands_Read.l0]
    rw [if_pos ((toList_nil _).2 (by rw [ByteArray.size_extract]; omega))]
  | succ d ih =>
    intro i hi
    have hz : (m.extract (8 + 32 * i) m.size).size = m.size - (8 + 32 * i) := by rw [ByteArray.size_extract]; omega
    have hne : ¬ (m.extract (8 + 32 * i) m.size).toList = [] := fun e => by have := (toList_nil _).1 e; omega
    have e1 : (m.extract (8 + 32 * i) m.size).extract 32 (m.extract (8 + 32 * i) m.size).size = m.extract (8 + 32 * (i + 1)) m.size := by
      rw [ByteArray.extract_extract, hz]
      congr 1
      omega
    have e2 : (m.extract (8 + 32 * i) m.size).extract 0 32 = m.extract (8 + 32 * i) (40 + 32 * i) := by
      rw [ByteArray.extract_extract]
      congr 1
      omega
    refine Ev.step (fun k => ?_) (ih (i + 1) (by omega))
    simp only [bands_Read.l0]
    rw [if_neg hne, if_pos (by decide), if_pos (by omega), if_pos (by rw [hashL_len]; omega), e1, e2, ← hashL_succ]
theorem many15 {h : Int} (h0 : 1 ≤ h) (h1 : h ≤ 1024) : wrap64 (Int.tdiv (wrap64 ((wrap64 (h + 8)) - 1)) 8) = ((mb h.toNat : Nat) : Int) := by
  unfold mb
  rw [w64 (x := h + 8) (by omega) (by omega), w64 (x := h + 8 - 1) (by omega) (by omega), Int.tdiv_eq_ediv_of_nonneg (by omega), w64 (by omega) (by omega)]
  omega
theorem mb_1000 {h : Int} (h1 : h ≤ 1024) : mb h.toNat ≤ 1000 := by unfold mb; omega
theorem Read_ev (m : ByteArray) (hs : m.size ≤ 4611686018427387904) : Ev (fun k => bands_Read.f k m) (redV m) := by
  have jt : ∀ a b r, ¬ redOk m → Ev (fun k => bands_Read.j0 k a b r true) (redV m) := by
    intro a b r hn
    refine Ev.step (f := fun _ => some (0, 0, ([] : List ByteArray), 42)) (fun k => ?_) (ev_same (Ev.now _) (redV_bad hn).symm)
    simp only [bands_Read.j0, if_true]
  by_cases h8 : (m.size : Int) < 8
  · refine Ev.congr (f := fun _ => some (0, 0, ([] : List ByteArray), 42)) (fun k => ?_) (ev_same (Ev.now _) (redV_bad (fun h => by have := h.1; omega)).symm)
    unfold bands_Read.f
    rw [if_pos h8]
  · have n2 : bands_number.f (m.extract 4 m.size) = some (num4 (m.extract 4 8)) := by
      rw [number15 _ (by rw [ByteArray.size_extract]; omega), num4_extract m 4 m.size (by omega) (by omega)]
    obtain ⟨w, hw⟩ : ∃ w, num4 m = w := ⟨_, rfl⟩
    obtain ⟨h, hh⟩ : ∃ h, num4 (m.extract 4 8) = h := ⟨_, rfl⟩
    have rw_ := num4_range m
    have rh_ := num4_range (m.extract 4 8)
    have hzr : (m.extract 8 m.size).size = m.size - 8 := by rw [ByteArray.size_extract]; omega
    refine Ev.congr (f := fun k => (if w < 1 then (bands_Read.j0 k w h (m.extract 8 m.size) true) else (if h < 1 then (bands_Read.j0 k w h (m.extract 8 m.size) true) else (if (mx w h) > 1024 then (bands_Read.j0 k w h (m.extract 8 m.size) true) else (if (wrap64 (w * h)) > 4096 then (bands_Read.j0 k w h (m.extract 8 m.size) true) else (bands_Read.j0 k w h (m.extract 8 m.size) (((m.extract 8 m.size).size : Int) != (wrap64 (32 * (wrap64 (Int.tdiv (wrap64 ((wrap64 (h + 8)) - 1)) 8))))))))))) (fun k => ?_) ?_
    · unfold bands_Read.f
      rw [if_neg h8, number15 m (by omega), Option.bind_some, if_pos (by omega), n2, Option.bind_some, if_pos (by omega), hw, hh]
    · have bad : ¬ (1 ≤ w ∧ w ≤ 1024 ∧ 1 ≤ h ∧ h ≤ 1024 ∧ w * h ≤ 4096) → ¬ redOk m := by
        intro hn hr
        have := (rgt_iff _ _).1 hr.2.1
        rw [hw, hh] at this
        exact hn this
      by_cases c1 : w < 1
      · simp only [if_pos c1]
        exact jt _ _ _ (bad (by omega))
      · simp only [if_neg c1]
        by_cases c2 : h < 1
        · simp only [if_pos c2]
          exact jt _ _ _ (bad (by omega))
        · simp only [if_neg c2]
          by_cases c3 : mx w h > 1024
          · simp only [if_pos c3]
            exact jt _ _ _ (bad (by unfold mx at c3; omega))
          · simp only [if_neg c3]
            have c3' : w ≤ 1024 ∧ h ≤ 1024 := by unfold mx at c3; split at c3 <;> omega
            have p0 : 0 ≤ w * h := Int.mul_nonneg (by omega) (by omega)
            have p1 : w * h ≤ 1024 * 1024 := Int.mul_le_mul c3'.1 c3'.2 (by omega) (by omega)
            rw [w64 (x := w * h) (by omega) (by omega)]
            by_cases c4 : w * h > 4096
            · simp only [if_pos c4]
              exact jt _ _ _ (bad (by omega))
            · simp only [if_neg c4]
              have hM := mb_1000 c3'.2
              rw [many15 (by omega) c3'.2, w64 (x := 32 * ((mb h.toNat : Nat) : Int)) (by omega) (by omega), hzr]
              by_cases c5 : m.size = 8 + 32 * mb h.toNat
              · have hok : redOk m := ⟨by omega, by rw [rgt_iff, hw, hh]; exact ⟨by omega, c3'.1, by omega, c3'.2, by omega⟩, by rw [hh]; exact c5⟩
                have e : ((((m.size - 8 : Nat)) : Int) != 32 * ((mb h.toNat : Nat) : Int)) = false := bne_eq_false_iff_eq.mpr (by omega)
                rw [e]
                have := Read_loop w h c5 hM (mb h.toNat) 0 (by omega)
                refine Ev.step (fun k => ?_) (ev_same this ?_)
                · simp only [bands_Read.j0]
                  rw [if_neg (by decide)]
                  rfl
                · unfold redV
                  rw [if_pos hok, hw, hh]
              · have e : ((((m.size - 8 : Nat)) : Int) != 32 * ((mb h.toNat : Nat) : Int)) = true := bne_iff_ne.mpr (by omega)
                rw [e]
                exact jt _ _ _ (fun hr => c5 (by have := hr.2.2; rw [hh] at this; exact this))

end Go.Proofs.Ytnimhhhbefpifaa.Pure
