/- The plain law SamplesClear of layer 11 (samples). Conditions: whole numbers of 64 bits, strings and lists as long as the model allows. -/
import Derived.Test.YtpccfanjdbenlaaPM11x7
import Derived.Test.YtpccfanjdbenlaaPM11x11
import Derived.Test.YtpccfanjdbenlaaPM11x23
import Derived.Test.YtpccfanjdbenlaaPureM11Y
namespace Go.Proofs.Ytpccfanjdbenlaa.Pure
open Go.RowKit Go.Proofs.YtpccfanjdbenlaaW.PrintWords Go.Proofs.YtpccfanjdbenlaaW.PrintLast Go.Proofs.YtpccfanjdbenlaaW.PrintMore Go.Proofs.Ytpccfanjdbenlaa.PM11
set_option linter.unusedVariables false
set_option linter.unusedSimpArgs false
def V2 (n : Int) : ByteArray := strOfNums [n / 256 % 256, n % 256]
theorem px_size (a b c d : Int) : (px a b c d).size = 8 := by unfold px; rw [strOfNums_size]; rfl
theorem px_tail (a b c d : Int) : (px a b c d).extract 6 8 = V2 d := by
  apply ByteArray.ext
  rw [ByteArray.data_extract]
  rfl
theorem V2_size (n : Int) : (V2 n).size = 2 := by unfold V2; rw [strOfNums_size]; rfl
theorem V2_bt (n : Int) : bt (V2 n) 0 = n / 256 % 256 ∧ bt (V2 n) 1 = n % 256 := by
  have h : Byt [n / 256 % 256, n % 256] := by
    intro x hx
    simp only [List.mem_cons, List.not_mem_nil, or_false] at hx
    omega
  unfold V2
  rw [bt_str h, bt_str h]
  exact ⟨rfl, rfl⟩
theorem V2_white : (V2 65535).toList = [255, 255] := by rw [toList_data]; decide +kernel
theorem V2_black : (V2 0).toList = [0, 0] ∧ ¬ (V2 0).toList = [255, 255] := by rw [toList_data]; decide +kernel
theorem clear_go {c d s0 s1 s4 : Int} {l : List Int} {pal tr : ByteArray} {has : Bool} (ho : okP c d l) (he : (pixGood c d pal tr has l).2 = 0) (hl : l.length ≤ 100) :
    ∃ n : Int, (∃ x y z : Int, (pixGood c d pal tr has l).1 = px x y z n) ∧ Ev (fun k => vitrinelaw11_SamplesClear.j0 k l (V2 n) c (c == 0 || c == 2) s0 s1 d c s4 pal tr has) true := by
  obtain ⟨h1, h2, h3, h4⟩ := ho
  have hal : (c = 0 ∨ c = 2) → Ev (fun k => vitrinelaw11_SamplesClear.j0 k l (V2 (alphaOf tr has d l)) c true s0 s1 d c s4 pal tr has) true := fun hc => by
    refine Ev.step (fun k => ?_) awake_id
    simp only [vitrinelaw11_SamplesClear.j0, if_true]
    unfold alphaOf
    cases hg : gls tr has d l with
    | false => rw [show (if false = true then (0 : Int) else 65535) = 65535 from rfl, if_pos V2_white]
    | true =>
      have hh : has = true := by
        unfold gls at hg
        cases has with
        | true => rfl
        | false => rw [if_neg (by rintro ⟨h, _⟩; cases h)] at hg; cases hg
      rw [show (if true = true then (0 : Int) else 65535) = 0 from rfl, if_neg V2_black.2, if_pos V2_black.1, if_pos hh]
  have hnum : ∀ m : Nat, l.length = m + 1 → c ≠ 3 → Ev (fun k => vitrinelaw11_SamplesClear.j0 k l (V2 (ww l d (m : Int))) c false s0 s1 d c s4 pal tr has) true := fun m hm hc => by
    have w1 : wrap64 ((l.length : Int) - 1) = (m : Int) := by rw [w64 (by omega) (by omega)]; omega
    have c1 : (m : Int) < (l.length : Int) := by omega
    have hr := wid_range (rd l (m : Int)) d
    obtain ⟨b0, b1⟩ := V2_bt (ww l d (m : Int))
    have e1 : wrap64 (bt (V2 (ww l d (m : Int))) 0) = wrap64 (Int.tdiv (wid (rd l (m : Int)) d) 256) := by
      rw [w64_bt, b0, Int.tdiv_eq_ediv_of_nonneg hr.1, w64 (by omega) (by omega)]
      show wid (rd l (m : Int)) d / 256 % 256 = _
      omega
    have e2 : wrap64 (bt (V2 (ww l d (m : Int))) 1) = Int.tmod (wid (rd l (m : Int)) d) 256 := by
      rw [w64_bt, b1, Int.tmod_eq_emod_of_nonneg hr.1]
      rfl
    refine Ev.step (f := fun k => (samples_Wide.f k (rd l (m : Int)) d).bind fun t308 => (if wrap64 (bt (V2 (ww l d (m : Int))) 0) = wrap64 (Int.tdiv t308 256) then (if wrap64 (bt (V2 (ww l d (m : Int))) 1) = Int.tmod t308 256 then ((vitrinelaw11_awake.f k).bind fun t309 => (some t309)) else (some false)) else (some false))) (fun k => ?_) ?_
    · simp only [vitrinelaw11_SamplesClear.j0, Bool.false_eq_true, if_false]
      rw [if_neg hc, w1, if_pos (Int.natCast_nonneg _), if_pos c1]
      simp only [V2_size, show (0 : Int) < ((2 : Nat) : Int) by decide, show (1 : Int) < ((2 : Nat) : Int) by decide, if_true]
    · refine Ev.bind (Wide_ev _ _) ?_
      simp only [e1, e2, if_true]
      exact awake_id
  rcases smp_cases c with ⟨hc, hs⟩ | ⟨hc, hs⟩ | ⟨hc, hs⟩ | ⟨hc, hs⟩ | ⟨hc, hs⟩ | hs
  · refine ⟨alphaOf tr has d l, ⟨ww l d 0, ww l d 0, ww l d 0, ?_⟩, ?_⟩
    · unfold pixGood
      rw [if_neg (by omega), if_pos hc]
    · have := hal (.inl hc)
      subst hc
      exact this
  · subst hc
    have hb := bad_first h2 h4
    have hpg : pixGood 3 d pal tr has l = lst pal tr has (rd l 0) := by unfold pixGood; rw [if_pos rfl]
    rw [hpg] at he ⊢
    unfold lst at he ⊢
    by_cases h : 3 * rd l 0 + 3 > (pal.size : Int)
    · rw [if_pos h] at he
      cases he
    · rw [if_neg h]
      refine ⟨_, ⟨_, _, _, rfl⟩, ?_⟩
      refine Ev.step (fun k => ?_) awake_id
      have hbt := bt_range tr (rd l 0)
      have e : bt (V2 (if has = true ∧ rd l 0 < (tr.size : Int) then 257 * bt tr (rd l 0) else 65535)) 0 = bt (V2 (if has = true ∧ rd l 0 < (tr.size : Int) then 257 * bt tr (rd l 0) else 65535)) 1 := by
        rw [(V2_bt _).1, (V2_bt _).2]
        have q1 : 257 * bt tr (rd l 0) / 256 = bt tr (rd l 0) := by omega
        have q2 : 257 * bt tr (rd l 0) % 256 = bt tr (rd l 0) := by omega
        split
        · rw [q1, q2]
          omega
        · decide
      simp only [vitrinelaw11_SamplesClear.j0]
      rw [if_neg (by decide), if_pos trivial, V2_size, if_pos (by decide), if_pos (by decide), if_pos e]
      cases has with
      | true => rw [if_pos rfl]
      | false =>
        have hn : ¬ (false = true ∧ rd l 0 < (tr.size : Int)) := fun h => by cases h.1
        rw [if_neg (by decide), show (if false = true ∧ rd l 0 < (tr.size : Int) then 257 * bt tr (rd l 0) else 65535) = 65535 from if_neg hn, if_pos V2_white]
  · refine ⟨alphaOf tr has d l, ⟨ww l d 0, ww l d 1, ww l d 2, ?_⟩, ?_⟩
    · unfold pixGood
      rw [if_neg (by omega), if_neg (by omega), if_pos hc]
    · have := hal (.inr hc)
      subst hc
      exact this
  · refine ⟨ww l d 1, ⟨ww l d 0, ww l d 0, ww l d 0, ?_⟩, ?_⟩
    · unfold pixGood
      rw [if_neg (by omega), if_neg (by omega), if_neg (by omega), if_pos hc]
    · have := hnum 1 (by omega) (by omega)
      subst hc
      exact this
  · refine ⟨ww l d 3, ⟨ww l d 0, ww l d 1, ww l d 2, ?_⟩, ?_⟩
    · unfold pixGood
      rw [if_neg (by omega), if_neg (by omega), if_neg (by omega), if_neg (by omega)]
    · have := hnum 3 (by omega) (by omega)
      subst hc
      exact this
  · omega
theorem SamplesClear : ∀ (a0_0 : Int) (a0_1 : Int) (a0_2 : Int) (a0_3 : Int) (a0_4 : Int) (a0_5 : ByteArray) (a0_6 : ByteArray) (a0_7 : Bool) (l1 : List Int), ((Lit.int .i64 a0_0).wf = true) → ((Lit.int .i64 a0_1).wf = true) → ((Lit.int .i64 a0_2).wf = true) → ((Lit.int .i64 a0_3).wf = true) → ((Lit.int .i64 a0_4).wf = true) → (a0_5.size ≤ 140737488351232) → (a0_6.size ≤ 140737488351232) → (l1.length ≤ maxLen ∧ l1.length * 8 ≤ 140737488351232 ∧ ∀ y_ ∈ l1, (fun x_ : Int => (Lit.int .i64 x_).wf = true) y_) → ∃ k, vitrinelaw11_SamplesClear.f k a0_0 a0_1 a0_2 a0_3 a0_4 a0_5 a0_6 a0_7 l1 = some true := by
  intro s0 s1 s2 s3 s4 pal tr has l _ _ _ _ _ hz _ _
  refine Ev.rounds ?_
  unfold vitrinelaw11_SamplesClear.f
  by_cases h : (l.length : Int) > 100
  · simp only [h, if_true]
    exact awake_id
  · have h2 : l.length < 17592186044416 := by omega
    have h3 : l.length ≤ 100 := by omega
    simp only [h, if_false]
    refine Ev.bind (Pixel_ev h2 hz) ?_
    have nil0 : ((⟨#[]⟩ : ByteArray)).toList = [] := by rw [toList_data]
    unfold pixAll
    by_cases ho : okP s3 s2 l
    · rw [if_pos ho]
      by_cases he : (pixGood s3 s2 pal tr has l).2 = 0
      · obtain ⟨n, ⟨x, y, z, hp⟩, hev⟩ := clear_go (s0 := s0) (s1 := s1) (s4 := s4) ho he h3
        simp only [he, if_true, hp, px_size, px_tail, show ((8 : Nat) : Int) = 8 from rfl, show (6 : Int) ≤ 8 by decide]
        by_cases hc : s3 = 0
        · subst hc
          simp only [if_true]
          exact hev
        · have e0 : (s3 == 0) = false := beq_eq_false_iff_ne.mpr hc
          rw [e0, Bool.false_or] at hev
          simp only [hc, if_false]
          exact hev
      · have hlst : s3 = 3 ∧ pixGood s3 s2 pal tr has l = (⟨#[]⟩, 29) := by
          unfold pixGood at he ⊢
          by_cases hc : s3 = 3
          · rw [if_pos hc] at he ⊢
            refine ⟨hc, ?_⟩
            unfold lst at he ⊢
            split
            · rfl
            · rename_i hn
              rw [if_neg hn] at he
              exact absurd rfl he
          · rw [if_neg hc] at he
            exfalso
            apply he
            repeat' split
            all_goals rfl
        rw [hlst.2]
        simp only [show ¬ ((29 : Int) = 0) by decide, show ¬ ((29 : Int) = 1) by decide, if_false, hlst.1, if_true, nil0]
        exact awake_id
    · rw [if_neg ho]
      simp only [show ¬ ((1 : Int) = 0) by decide, if_false, if_true, nil0]
      exact awake_id

end Go.Proofs.Ytpccfanjdbenlaa.Pure
