/- Layer 11 (samples), plain laws, sixth part: what a pixel is; the program's answer is it. Conditions: a palette and a transparency of at most 2^47 - 4096 bytes, a list as long as a slice can be. -/
import Derived.Test.YtpccfanjdbenlaaPM11x7
import Derived.Test.YtpccfanjdbenlaaPM11x8
import Derived.Test.YtpccfanjdbenlaaPM11x9
import Derived.Test.YtpccfanjdbenlaaPM11x10
import Derived.Test.YtpccfanjdbenlaaPureM11X
namespace Go.Proofs.Ytpccfanjdbenlaa.Pure
open Go.RowKit Go.Proofs.YtpccfanjdbenlaaW.PrintWords Go.Proofs.YtpccfanjdbenlaaW.PrintLast Go.Proofs.YtpccfanjdbenlaaW.PrintMore Go.Proofs.Ytpccfanjdbenlaa.PM11
set_option linter.unusedVariables false
set_option linter.unusedSimpArgs false
def ww (l : List Int) (d : Int) (i : Int) : Int := wid (rd l i) d
def alphaOf (tr : ByteArray) (has : Bool) (d : Int) (l : List Int) : Int := if gls tr has d l = true then 0 else 65535
/-- What a pixel is, of good samples. -/
def pixGood (c d : Int) (pal tr : ByteArray) (has : Bool) (l : List Int) : ByteArray × Int :=
  if c = 3 then lst pal tr has (rd l 0) else if c = 0 then (px (ww l d 0) (ww l d 0) (ww l d 0) (alphaOf tr has d l), 0) else if c = 2 then (px (ww l d 0) (ww l d 1) (ww l d 2) (alphaOf tr has d l), 0)
  else if c = 4 then (px (ww l d 0) (ww l d 0) (ww l d 0) (ww l d 1), 0) else (px (ww l d 0) (ww l d 1) (ww l d 2) (ww l d 3), 0)
def okP (c d : Int) (l : List Int) : Prop := smp c = (l.length : Int) ∧ l.length ≠ 0 ∧ kn d = true ∧ bad d l = false
instance (c d : Int) (l : List Int) : Decidable (okP c d l) := by unfold okP; exact inferInstance
def pixAll (c d : Int) (pal tr : ByteArray) (has : Bool) (l : List Int) : ByteArray × Int := if okP c d l then pixGood c d pal tr has l else (⟨#[]⟩, 1)
theorem smp_cases (c : Int) : (c = 0 ∧ smp c = 1) ∨ (c = 3 ∧ smp c = 1) ∨ (c = 2 ∧ smp c = 3) ∨ (c = 4 ∧ smp c = 2) ∨ (c = 6 ∧ smp c = 4) ∨ smp c = 0 := by
  unfold smp
  by_cases h0 : c = 0
  · subst h0; exact .inl ⟨rfl, rfl⟩
  · by_cases h3 : c = 3
    · subst h3; exact .inr (.inl ⟨rfl, rfl⟩)
    · by_cases h2 : c = 2
      · subst h2; exact .inr (.inr (.inl ⟨rfl, rfl⟩))
      · by_cases h4 : c = 4
        · subst h4; exact .inr (.inr (.inr (.inl ⟨rfl, rfl⟩)))
        · by_cases h6 : c = 6
          · subst h6; exact .inr (.inr (.inr (.inr (.inl ⟨rfl, rfl⟩))))
          · rw [if_neg (by omega), if_neg h2, if_neg h4, if_neg h6]
            exact .inr (.inr (.inr (.inr (.inr rfl))))
theorem bad_first {d : Int} {l : List Int} (hl : l.length ≠ 0) (h : bad d l = false) : 0 ≤ rd l 0 ∧ rd l 0 < pw d := by
  cases l with
  | nil => exact absurd rfl hl
  | cons x xs =>
    unfold bad at h
    rw [List.any_cons, Bool.or_eq_false_iff] at h
    have h1 := h.1
    unfold pbad at h1
    rw [Bool.or_eq_false_iff, decide_eq_false_iff_not, decide_eq_false_iff_not] at h1
    have e : rd (x :: xs) 0 = x := rfl
    have e2 : pw d = 2 ^ d.toNat := rfl
    rw [e, e2]
    omega
def ws (l : List Int) (d : Int) (i : Nat) : List Int := (List.range i).map fun j : Nat => ww l d (j : Int)
theorem ws_succ (l : List Int) (d : Int) (i : Nat) : ws l d i ++ [wid (rd l (i : Int)) d] = ws l d (i + 1) := by
  unfold ws
  rw [List.range_succ, List.map_append]
  rfl
theorem Pixel_loop {l : List Int} {n s0 s1 s2 s3 s4 : Int} {pal tr : ByteArray} {has : Bool} {R : ByteArray × Int} (hl : l.length < 17592186044416) (hend : Ev (fun k => samples_Pixel.l0 k l n (ws l s2 l.length) l (l.length : Int) (l.length : Int) s0 s1 s2 s3 s4 pal tr has) R) :
    ∀ r i : Nat, i + r = l.length → Ev (fun k => samples_Pixel.l0 k l n (ws l s2 i) l (l.length : Int) (i : Int) s0 s1 s2 s3 s4 pal tr has) R := by
  intro r
  induction r with
  | zero =>
    intro i hi
    rw [show i = l.length by omega]
    exact hend
  | succ r ih =>
    intro i hi
    have hlt : (i : Int) < (l.length : Int) := by omega
    have h62 : i ≤ 4611686018427387904 := by omega
    have hlen : (ws l s2 i).length < 17592186044416 := by unfold ws; rw [List.length_map, List.length_range]; omega
    refine Ev.step (f := fun k => (samples_Wide.f k (rd l (i : Int)) s2).bind fun t158 => (samples_Pixel.l0 k l n (ws l s2 i ++ [t158]) l (l.length : Int) ((i + 1 : Nat) : Int) s0 s1 s2 s3 s4 pal tr has)) (fun k => ?_) ?_
    · simp only [samples_Pixel.l0]
      rw [if_pos hlt, if_pos (Int.natCast_nonneg _), if_pos hlt, w_succ h62]
      simp only [hlen, if_true]
    · refine Ev.bind (Wide_ev _ _) ?_
      rw [ws_succ]
      exact ih (i + 1) (by omega)
theorem Pixel_end {l : List Int} {s0 s1 s2 s3 s4 : Int} {pal tr : ByteArray} {has : Bool} (hl : l.length < 17592186044416) (hz : pal.size ≤ 140737488351232) (ho : okP s3 s2 l) :
    Ev (fun k => samples_Pixel.j0 k l (smp s3) false s0 s1 s2 s3 s4 pal tr has) (pixGood s3 s2 pal tr has l) := by
  obtain ⟨h1, h2, h3, h4⟩ := ho
  have hb := bad_first h2 h4
  have hlen0 : (0 : Int) < (l.length : Int) := by omega
  have hl' : l.length ≤ 17592186044416 := by omega
  have hlst : s3 = 3 → Ev (fun k => samples_Pixel.j0 k l (smp s3) false s0 s1 s2 s3 s4 pal tr has) (pixGood s3 s2 pal tr has l) := fun h => by
    unfold pixGood
    rw [if_pos h]
    refine Ev.step (f := fun k => (samples_listed.f k s0 s1 s2 s3 s4 pal tr has (rd l 0)).bind fun bt155 => (some (bt155.1, bt155.2))) (fun k => ?_) (Ev.bind (listed_ev hb.1 hz) (Ev.now _))
    simp only [samples_Pixel.j0, Bool.false_eq_true, if_false]
    rw [if_pos h, if_pos hlen0]
  have hloop : ∀ R, s3 ≠ 3 → Ev (fun k => samples_Pixel.l0 k l (smp s3) (ws l s2 l.length) l (l.length : Int) (l.length : Int) s0 s1 s2 s3 s4 pal tr has) R → Ev (fun k => samples_Pixel.j0 k l (smp s3) false s0 s1 s2 s3 s4 pal tr has) R := fun R hc he => by
    refine Ev.step (fun k => ?_) (Pixel_loop hl he l.length 0 (by omega))
    simp only [samples_Pixel.j0, Bool.false_eq_true, if_false]
    rw [if_neg hc]
    rfl
  have hgl : Ev (fun k => samples_glassy.f k s0 s1 s2 s3 s4 pal tr has l) (gls tr has s2 l) := glassy_ev h3 hl'
  have hge : Ev (fun k => samples_Pixel.l0 k l (smp s3) (ws l s2 l.length) l (l.length : Int) (l.length : Int) s0 s1 s2 s3 s4 pal tr has) (pixGood s3 s2 pal tr has l) → s3 ≠ 3 → Ev (fun k => samples_Pixel.j0 k l (smp s3) false s0 s1 s2 s3 s4 pal tr has) (pixGood s3 s2 pal tr has l) := fun he hc => hloop _ hc he
  rcases smp_cases s3 with ⟨hc, hs⟩ | ⟨hc, hs⟩ | ⟨hc, hs⟩ | ⟨hc, hs⟩ | ⟨hc, hs⟩ | hs
  · refine hge ?_ (by omega)
    have hL : l.length = 1 := by omega
    have hw : ws l s2 1 = [ww l s2 0] := rfl
    unfold pixGood
    rw [if_neg (by omega), if_pos hc, hs, hL, hw]
    refine Ev.step (f := fun k => (samples_glassy.f k s0 s1 s2 s3 s4 pal tr has l).bind fun t163 => (if t163 = true then (samples_Pixel.j2 k 1 [ww l s2 0] 0) else (samples_Pixel.j2 k 1 [ww l s2 0] 65535))) (fun k => ?_) ?_
    · simp only [samples_Pixel.l0]
      rw [if_neg (by decide), if_neg (by decide)]
    · refine Ev.bind hgl ?_
      have hj : ∀ a : Int, Ev (fun k => samples_Pixel.j2 k 1 [ww l s2 0] a) (px (ww l s2 0) (ww l s2 0) (ww l s2 0) a, 0) := fun a => by
        refine Ev.step (f := fun k => (samples_pairs.f k [ww l s2 0, ww l s2 0, ww l s2 0, a]).bind fun t170 => some (t170, 0)) (fun k => ?_) (Ev.bind (pairs_ev _ _ _ _) (Ev.now _))
        simp only [samples_Pixel.j2]
        rw [if_pos (by first | decide | simp), if_pos (by first | decide | simp)]
        rfl
      unfold alphaOf
      cases gls tr has s2 l
      · exact hj 65535
      · exact hj 0
  · exact hlst hc
  · refine hge ?_ (by omega)
    have hL : l.length = 3 := by omega
    have hw : ws l s2 3 = [ww l s2 0, ww l s2 1, ww l s2 2] := rfl
    unfold pixGood
    rw [if_neg (by omega), if_neg (by omega), if_pos hc, hs, hL, hw]
    refine Ev.step (f := fun k => (samples_glassy.f k s0 s1 s2 s3 s4 pal tr has l).bind fun t163 => (if t163 = true then (samples_Pixel.j2 k 3 [ww l s2 0, ww l s2 1, ww l s2 2] 0) else (samples_Pixel.j2 k 3 [ww l s2 0, ww l s2 1, ww l s2 2] 65535))) (fun k => ?_) ?_
    · simp only [samples_Pixel.l0]
      rw [if_neg (by decide), if_neg (by decide)]
    · refine Ev.bind hgl ?_
      have hj : ∀ a : Int, Ev (fun k => samples_Pixel.j2 k 3 [ww l s2 0, ww l s2 1, ww l s2 2] a) (px (ww l s2 0) (ww l s2 1) (ww l s2 2) a, 0) := fun a => by
        refine Ev.step (f := fun k => (samples_pairs.f k [ww l s2 0, ww l s2 1, ww l s2 2, a]).bind fun t170 => some (t170, 0)) (fun k => ?_) (Ev.bind (pairs_ev _ _ _ _) (Ev.now _))
        simp only [samples_Pixel.j2]
        rw [if_neg (by decide), if_pos (by first | decide | simp), if_pos (by first | decide | simp), if_pos (by first | decide | simp)]
        rfl
      unfold alphaOf
      cases gls tr has s2 l
      · exact hj 65535
      · exact hj 0
  · refine hge ?_ (by omega)
    have hL : l.length = 2 := by omega
    have hw : ws l s2 2 = [ww l s2 0, ww l s2 1] := rfl
    unfold pixGood
    rw [if_neg (by omega), if_neg (by omega), if_neg (by omega), if_pos hc, hs, hL, hw]
    refine Ev.step (f := fun k => samples_Pixel.j2 k 2 [ww l s2 0, ww l s2 1] (ww l s2 1)) (fun k => ?_) ?_
    · simp only [samples_Pixel.l0]
      rw [if_neg (by decide), if_pos (by first | decide | simp), show wrap64 (2 - 1) = 1 from by decide +kernel, if_pos (by first | decide | simp), if_pos (by first | decide | simp)]
      rfl
    · refine Ev.step (f := fun k => (samples_pairs.f k [ww l s2 0, ww l s2 0, ww l s2 0, ww l s2 1]).bind fun t170 => some (t170, 0)) (fun k => ?_) (Ev.bind (pairs_ev _ _ _ _) (Ev.now _))
      simp only [samples_Pixel.j2]
      rw [if_pos (by first | decide | simp), if_pos (by first | decide | simp)]
      rfl
  · refine hge ?_ (by omega)
    have hL : l.length = 4 := by omega
    have hw : ws l s2 4 = [ww l s2 0, ww l s2 1, ww l s2 2, ww l s2 3] := rfl
    unfold pixGood
    rw [if_neg (by omega), if_neg (by omega), if_neg (by omega), if_neg (by omega), hs, hL, hw]
    refine Ev.step (f := fun k => samples_Pixel.j2 k 4 [ww l s2 0, ww l s2 1, ww l s2 2, ww l s2 3] (ww l s2 3)) (fun k => ?_) ?_
    · simp only [samples_Pixel.l0]
      rw [if_neg (by decide), if_pos (by first | decide | simp), show wrap64 (4 - 1) = 3 from by decide +kernel, if_pos (by first | decide | simp), if_pos (by first | decide | simp)]
      rfl
    · refine Ev.step (f := fun k => (samples_pairs.f k [ww l s2 0, ww l s2 1, ww l s2 2, ww l s2 3]).bind fun t170 => some (t170, 0)) (fun k => ?_) (Ev.bind (pairs_ev _ _ _ _) (Ev.now _))
      simp only [samples_Pixel.j2]
      rw [if_neg (by decide), if_pos (by first | decide | simp), if_pos (by first | decide | simp), if_pos (by first | decide | simp)]
      rfl
  · omega
theorem Pixel_ev {l : List Int} {s0 s1 s2 s3 s4 : Int} {pal tr : ByteArray} {has : Bool} (hl : l.length < 17592186044416) (hz : pal.size ≤ 140737488351232) :
    Ev (fun k => samples_Pixel.f k s0 s1 s2 s3 s4 pal tr has l) (pixAll s3 s2 pal tr has l) := by
  have hbad : ∀ n : Int, ¬ okP s3 s2 l → Ev (fun k => samples_Pixel.j0 k l n true s0 s1 s2 s3 s4 pal tr has) (pixAll s3 s2 pal tr has l) := fun n hn => by
    unfold pixAll
    rw [if_neg hn]
    exact Ev.step (f := fun _ => some (⟨#[]⟩, 1)) (fun k => by simp only [samples_Pixel.j0, if_true]) (Ev.now _)
  have hl' : l.length ≤ 17592186044416 := by omega
  unfold samples_Pixel.f
  refine Ev.bind (Samples_ev s3) ?_
  by_cases h0 : smp s3 = 0
  · simp only [h0, if_true]
    exact hbad 0 (fun h => h.2.1 (by have := h.1; omega))
  · simp only [h0, if_false]
    by_cases h1 : (l.length : Int) = smp s3
    · simp only [h1, if_true]
      refine Ev.bind (known_ev s2) ?_
      by_cases hk : kn s2 = true
      · simp only [hk, if_true]
        refine Ev.bind (bad_ev hk hl') ?_
        cases hb : bad s2 l with
        | true => exact hbad _ (fun h => by have := h.2.2.2; rw [hb] at this; cases this)
        | false =>
          have ho : okP s3 s2 l := ⟨h1.symm, by omega, hk, hb⟩
          unfold pixAll
          rw [if_pos ho]
          exact Pixel_end hl hz ho
      · have hk' : kn s2 = false := by cases e : kn s2 <;> simp_all
        simp only [hk', Bool.false_eq_true, if_false]
        exact hbad _ (fun h => hk h.2.2.1)
    · simp only [h1, if_false]
      exact hbad _ (fun h => h1 h.1.symm)

end Go.Proofs.Ytpccfanjdbenlaa.Pure
