/- ChunkTold, plain: a byte of a chunk's type or data that is changed is told. No condition. -/
import Derived.Test.YtfgbfbhllbejpaaPL07x2
import Derived.Test.YtfgbfbhllbejpaaPL07x4
import Derived.Test.YtfgbfbhllbejpaaPL07x5
import Derived.Test.YtfgbfbhllbejpaaPL07x6
import Derived.Test.YtfgbfbhllbejpaaPL07x15
import Derived.Test.YtfgbfbhllbejpaaPureC07
import Derived.Test.YtfgbfbhllbejpaaPureC07L
import Derived.Test.YtfgbfbhllbejpaaPureTold
namespace Go.Proofs.Ytfgbfbhllbejpaa.Pure
open Go.RowKit Go.Proofs.YtfgbfbhllbejpaaW.PrintWords Go.Proofs.YtfgbfbhllbejpaaW.PrintLast Go.Proofs.YtfgbfbhllbejpaaW.PrintMore Go.Proofs.Ytfgbfbhllbejpaa.PL07
set_option linter.unusedVariables false
set_option linter.unusedSimpArgs false
theorem enc_facts (c : S35) (hg : good c = true) : (enc c).size = 12 + c.f1.size ∧ num4 (enc c) = (c.f1.size : Int) ∧ num4 (enc c) ≤ 2147483647 ∧ nam ((enc c).extract 4 8) = true ∧ num4 ((enc c).extract (8 + c.f1.size) (enc c).size) = crc ((enc c).extract 4 (8 + c.f1.size)) := by
  have hn := next_enc c (⟨#[]⟩) hg
  have e : enc c ++ (⟨#[]⟩ : ByteArray) = enc c := by rw [show (⟨#[]⟩ : ByteArray) = ByteArray.empty from rfl, ByteArray.append_empty]
  rw [e] at hn
  have h4 : c.f0.size = 4 := by
    unfold good at hg
    rw [Bool.and_eq_true] at hg
    exact nam_size hg.1
  have hz := enc_size c
  have hne : (enc c).size = 12 + c.f1.size := by omega
  have hN : num4 (enc c) = (c.f1.size : Int) := by
    unfold enc
    rw [ByteArray.append_assoc, num4_app _ _ (by rw [be4_size]; omega)]
    unfold good at hg
    rw [Bool.and_eq_true] at hg
    have := of_decide_eq_true hg.2
    exact num4_be4 (by omega) (by omega)
  unfold nextS at hn
  rw [if_neg (by omega)] at hn
  by_cases h1 : num4 (enc c) > 2147483647 ∨ nam ((enc c).extract 4 8) = false
  · rw [if_pos h1] at hn
    have := congrArg (fun x => x.2.2.2) hn
    simp at this
  · rw [if_neg h1, if_neg (by rw [hN]; omega)] at hn
    by_cases h2 : num4 ((enc c).extract (8 + (num4 (enc c)).toNat) (enc c).size) ≠ crc ((enc c).extract 4 (8 + (num4 (enc c)).toNat))
    · rw [if_pos h2] at hn
      have := congrArg (fun x => x.2.2.2) hn
      simp at this
    · have h3 := Decidable.not_not.1 h2
      rw [hN, Int.toNat_natCast] at h3
      refine ⟨hne, hN, by omega, ?_, h3⟩
      cases hb : nam ((enc c).extract 4 8) with
      | true => rfl
      | false => exact absurd (.inr hb) h1
/-- A chunk's bytes with one byte of its type or data changed. -/
theorem next_told (c : S35) (hg : good c = true) (j : Nat) (h1 : 4 ≤ j) (h2 : j < 8 + c.f1.size) {v : Int} (hv : 0 ≤ v ∧ v ≤ 255) (hne : v ≠ bt (enc c) (j : Int)) :
    (nextS (chg (enc c) j v)).2.2.2 = 22 ∨ ((nextS (chg (enc c) j v)).2.2.2 = 21 ∧ j < 8) := by
  obtain ⟨f1, f2, f3, f4, f5⟩ := enc_facts c hg
  have hz := chg_size (enc c) j v
  have hN : num4 (chg (enc c) j v) = (c.f1.size : Int) := by
    have a1 := num4_extract (chg (enc c) j v) 0 (chg (enc c) j v).size (by omega) (by omega)
    have a2 := num4_extract (enc c) 0 (enc c).size (by omega) (by omega)
    rw [ByteArray.extract_zero_size] at a1 a2
    rw [a1, Nat.zero_add, chg_cut (enc c) j hv 0 4 (by omega) (.inr h1), ← f2, a2]
  unfold nextS
  rw [if_neg (by omega), hN, Int.toNat_natCast]
  by_cases hb : nam ((chg (enc c) j v).extract 4 8) = false
  · rw [if_pos (.inr hb)]
    refine .inr ⟨rfl, ?_⟩
    by_cases h8 : j < 8
    · exact h8
    · rw [chg_cut (enc c) j hv 4 8 (by omega) (.inr (by omega)), f4] at hb
      cases hb
  · rw [if_neg (by rintro (h | h); (· omega); exact hb h), if_neg (by omega), if_pos ?_]
    · exact .inl rfl
    · rw [hz, chg_cut (enc c) j hv (8 + c.f1.size) (enc c).size (by omega) (.inl h2), f5]
      exact fun h => chg_crc (enc c) j hv hne 4 (8 + c.f1.size) (by omega) h1 h2 h.symm
theorem split_told (c : S35) (hg : good c = true) (m : Nat) (hm : m < 4 + c.f1.size) {v : Int} (hv : 0 ≤ v ∧ v ≤ 255) (hne : v ≠ bt (sig ++ enc c) ((12 + m : Nat) : Int)) :
    (splitF (chg (sig ++ enc c) (12 + m) v)).2 = 22 ∨ ((splitF (chg (sig ++ enc c) (12 + m) v)).2 = 21 ∧ m < 4) := by
  obtain ⟨f1, _⟩ := enc_facts c hg
  have hs8 : sig.size = 8 := rfl
  have hz : (sig ++ enc c).size = 20 + c.f1.size := by rw [ByteArray.size_append, f1, hs8]; omega
  have hz2 := chg_size (sig ++ enc c) (12 + m) v
  have e0 : (chg (sig ++ enc c) (12 + m) v).extract 0 8 = sig := by
    rw [chg_cut _ _ hv 0 8 (by omega) (.inr (by omega))]
    have := ByteArray.extract_append_eq_left (a := sig) (b := enc c) (i := 8) rfl
    exact this
  have e1 : (sig ++ enc c).extract 8 (sig ++ enc c).size = enc c := by
    have := ByteArray.extract_append_eq_right (a := sig) (b := enc c) (i := 8) (j := (sig ++ enc c).size) rfl (by rw [ByteArray.size_append])
    exact this
  have e2 := chg_behind (sig ++ enc c) (12 + m) 8 hv (by omega) (by omega)
  rw [e1, show 12 + m - 8 = 4 + m by omega] at e2
  have hb : bt (enc c) ((4 + m : Nat) : Int) = bt (sig ++ enc c) ((12 + m : Nat) : Int) := by
    have := bt_extract (sig ++ enc c) 8 (sig ++ enc c).size (4 + m) (by omega) (by omega)
    rw [e1] at this
    rw [this, show 8 + (4 + m) = 12 + m by omega]
  have hnx := next_told c hg (4 + m) (by omega) (by omega) hv (by rw [hb]; exact hne)
  have hEz := chg_size (enc c) (4 + m) v
  unfold splitF
  rw [if_neg (by rintro (h | h); (· omega); exact h e0), e2, hz2, hz, show 20 + c.f1.size = (19 + c.f1.size) + 1 by omega]
  unfold splitS
  rw [if_neg (by omega)]
  rcases hnx with h | ⟨h, h8⟩
  · rw [if_neg (by omega)]
    exact .inl h
  · rw [if_neg (by omega)]
    exact .inr ⟨h, by omega⟩
theorem join_one_bad (t d : ByteArray) (h : t.size ≤ 4611686018427387904) (hn : nam t = false) : Ev (fun k => chunk_Join.f k [(⟨t, d⟩ : S35)]) (⟨#[]⟩, 21) := by
  have hr : rd_T35 [(⟨t, d⟩ : S35)] 0 = ⟨t, d⟩ := rfl
  have hj : Ev (fun k => chunk_Join.j1 k [(⟨t, d⟩ : S35)] 1 0 true sig t d) (⟨#[]⟩, 21) := by
    refine Ev.step (f := fun _ => some (⟨#[]⟩, 21)) (fun k => ?_) (Ev.now _)
    simp only [chunk_Join.j1, if_true]
  refine Ev.congr (f := fun k => chunk_Join.l0 k [(⟨t, d⟩ : S35)] 1 0 sig) (fun k => ?_) ?_
  · unfold chunk_Join.f
    rw [show strings_Builder_WriteString.f (⟨#[]⟩ : ByteArray) (⟨#[137, 80, 78, 71, 13, 10, 26, 10]⟩ : ByteArray) = some (8, none, sig) from by
      unfold strings_Builder_WriteString.f
      rw [if_pos (by decide)]
      rfl]
    rfl
  · refine Ev.step (f := fun k => ((chunk_named.f k t).bind fun t132 => (if t132 = true then (chunk_Join.j1 k [(⟨t, d⟩ : S35)] 1 0 (decide ((d.size : Int) > 2147483647)) sig t d) else (chunk_Join.j1 k [(⟨t, d⟩ : S35)] 1 0 true sig t d)))) (fun k => ?_) (Ev.bind (f := fun k t132 => (if t132 = true then (chunk_Join.j1 k [(⟨t, d⟩ : S35)] 1 0 (decide ((d.size : Int) > 2147483647)) sig t d) else (chunk_Join.j1 k [(⟨t, d⟩ : S35)] 1 0 true sig t d))) (named_ev t h) ?_)
    · simp only [chunk_Join.l0]
      rw [if_pos (by decide), if_pos (by decide), if_pos (show (0 : Int) < (([(⟨t, d⟩ : S35)] : List S35).length : Int) by simp), hr]
    · rw [hn]
      simp only [Bool.false_eq_true, if_false]
      exact hj
theorem ChunkTold : ∀ (a0_0 : ByteArray) (a0_1 : ByteArray) (a1 : Int) (a2 : Int), (a0_0.size ≤ 140737488351232) → (a0_1.size ≤ 140737488351232) → ((Lit.int .i64 a1).wf = true) → ((Lit.int .u8 a2).wf = true) → ∃ k, vitrinelaw07_ChunkTold.f k a0_0 a0_1 a1 a2 = some true := by
  intro t d at_ by_ h0 h1 _ hby
  have hby := wf_u8 hby
  refine Ev.rounds ?_
  have jt : Ev (fun k => vitrinelaw07_ChunkTold.j0 k at_ by_ true t d) true := by
    refine Ev.step (fun k => ?_) awake_id
    simp only [vitrinelaw07_ChunkTold.j0]
    rw [if_pos trivial]
  by_cases hd : (d.size : Int) > 10000
  · exact Ev.congr (fun k => by unfold vitrinelaw07_ChunkTold.f; rw [if_pos hd]) jt
  · by_cases hb0 : by_ = 0
    · exact Ev.congr (fun k => by unfold vitrinelaw07_ChunkTold.f; rw [if_neg hd, show (by_ == 0) = true from beq_iff_eq.mpr hb0]) jt
    · refine Ev.congr (f := fun k => vitrinelaw07_ChunkTold.j0 k at_ by_ false t d) (fun k => by unfold vitrinelaw07_ChunkTold.f; rw [if_neg hd, show (by_ == 0) = false from beq_eq_false_iff_ne.mpr hb0]) ?_
      obtain ⟨n, hn⟩ : ∃ n : Int, wrap64 (4 + (d.size : Int)) = n := ⟨_, rfl⟩
      have hn' : n = 4 + (d.size : Int) := by rw [← hn, w64 (by omega) (by omega)]
      obtain ⟨p, hp⟩ : ∃ p : Int, Int.tmod (wrap64 ((Int.tmod at_ n) + n)) n = p := ⟨_, rfl⟩
      have hpr := place_rg at_ (n := n) (by omega) (by omega)
      rw [hp] at hpr
      have hpw : wrap64 (12 + p) = ((12 + p.toNat : Nat) : Int) := by rw [w64 (by omega) (by omega)]; omega
      refine Ev.step (f := fun k => ((chunk_Join.f k (([(⟨t, d⟩ : S35)] : List (S35)))).bind fun bt239 => (if bt239.2 = 0 then (if bt239.1.size ≤ 140737488355328 then ((some ((bytesOf bt239.1) : List Int)).bind fun y242 => (if (y242.length : Int) = (wrap64 (16 + n)) then (if n = 0 then (none) else (if 0 ≤ ((12 + p.toNat : Nat) : Int) then (if ((12 + p.toNat : Nat) : Int) < (y242.length : Int) then ((chunk_Split.f k (strOfNums (y242.set (((12 + p.toNat : Nat) : Int) : Int).toNat (Go.bits .xor .u8 (rd y242 ((12 + p.toNat : Nat) : Int)) by_)))).bind fun bt247 => (if bt247.2 = 22 then ((vitrinelaw07_awake.f k).bind fun t251 => (some t251)) else (if bt247.2 = 21 then (if ((12 + p.toNat : Nat) : Int) < 16 then ((vitrinelaw07_awake.f k).bind fun t252 => (some t252)) else (some false)) else (some false)))) else (none)) else (none))) else (some false))) else (none)) else (if bt239.2 = 21 then ((vitrinelaw07_awake.f k).bind fun t241 => (some t241)) else (some false))))) (fun k => ?_) ?_
      · simp only [vitrinelaw07_ChunkTold.j0]
        rw [if_neg (by decide), hn, hp, hpw]
      · by_cases hg : good ⟨t, d⟩ = true
        · have hjs : joinS [⟨t, d⟩] sig = (sig ++ enc ⟨t, d⟩, 0) := by
            show (if good ⟨t, d⟩ = true then joinS [] (sig ++ enc ⟨t, d⟩) else _) = _
            rw [if_pos hg]
            rfl
          have h4 : t.size = 4 := by
            have hg' := hg
            unfold good at hg'
            rw [Bool.and_eq_true] at hg'
            exact nam_size hg'.1
          obtain ⟨f1, _⟩ := enc_facts ⟨t, d⟩ hg
          have f1 : (enc ⟨t, d⟩).size = 12 + d.size := f1
          have hs8 : sig.size = 8 := rfl
          have hz : (sig ++ enc ⟨t, d⟩).size = 20 + d.size := by rw [ByteArray.size_append, f1, hs8]; omega
          refine Ev.bind (f := fun k bt239 => (if bt239.2 = 0 then (if bt239.1.size ≤ 140737488355328 then ((some ((bytesOf bt239.1) : List Int)).bind fun y242 => (if (y242.length : Int) = (wrap64 (16 + n)) then (if n = 0 then (none) else (if 0 ≤ ((12 + p.toNat : Nat) : Int) then (if ((12 + p.toNat : Nat) : Int) < (y242.length : Int) then ((chunk_Split.f k (strOfNums (y242.set (((12 + p.toNat : Nat) : Int) : Int).toNat (Go.bits .xor .u8 (rd y242 ((12 + p.toNat : Nat) : Int)) by_)))).bind fun bt247 => (if bt247.2 = 22 then ((vitrinelaw07_awake.f k).bind fun t251 => (some t251)) else (if bt247.2 = 21 then (if ((12 + p.toNat : Nat) : Int) < 16 then ((vitrinelaw07_awake.f k).bind fun t252 => (some t252)) else (some false)) else (some false)))) else (none)) else (none))) else (some false))) else (none)) else (if bt239.2 = 21 then ((vitrinelaw07_awake.f k).bind fun t241 => (some t241)) else (some false)))) (Join_ev [(⟨t, d⟩ : S35)] (by simp) (by show 12 + d.size + t.size + 0 ≤ 900000; omega)) ?_
          rw [hjs]
          have hbl := bytesOf_length (sig ++ enc ⟨t, d⟩)
          obtain ⟨xr, xn⟩ := xor_u8 (bt_range (sig ++ enc ⟨t, d⟩) ((12 + p.toNat : Nat) : Int)) hby hb0
          obtain ⟨v, hv⟩ : ∃ v, Go.bits .xor .u8 (bt (sig ++ enc ⟨t, d⟩) ((12 + p.toNat : Nat) : Int)) by_ = v := ⟨_, rfl⟩
          rw [hv] at xr xn
          refine Ev.congr (f := fun k => (chunk_Split.f k (chg (sig ++ enc ⟨t, d⟩) (12 + p.toNat) v)).bind fun bt247 => (if bt247.2 = 22 then ((vitrinelaw07_awake.f k).bind fun t251 => (some t251)) else (if bt247.2 = 21 then (if ((12 + p.toNat : Nat) : Int) < 16 then ((vitrinelaw07_awake.f k).bind fun t252 => (some t252)) else (some false)) else (some false)))) (fun k => ?_) ?_
          · simp only [Option.bind_some, if_true]
            rw [if_pos (by omega), rd_bytesOf, hv, Int.toNat_natCast, if_pos (by rw [w64 (by omega) (by omega)]; omega), if_neg (by omega), if_pos (by omega), if_pos (by omega)]
            rfl
          · refine Ev.bind (f := fun k bt247 => (if bt247.2 = 22 then ((vitrinelaw07_awake.f k).bind fun t251 => (some t251)) else (if bt247.2 = 21 then (if ((12 + p.toNat : Nat) : Int) < 16 then ((vitrinelaw07_awake.f k).bind fun t252 => (some t252)) else (some false)) else (some false)))) (Split_ev (chg (sig ++ enc ⟨t, d⟩) (12 + p.toNat) v) (by rw [chg_size]; omega)) ?_
            rcases split_told ⟨t, d⟩ hg p.toNat (by show p.toNat < 4 + d.size; omega) xr xn with h | ⟨h, h8⟩
            · simp only [h, if_true]
              exact awake_id
            · simp only [h, if_true]
              refine Ev.congr (fun k => ?_) awake_id
              rw [if_neg (by decide), if_pos (by omega)]
        · have hnam : nam t = false := by
            cases hb : nam t with
            | false => rfl
            | true => exact absurd (by unfold good; rw [hb, decide_eq_true (by show d.size ≤ 2147483647; omega)]; rfl) hg
          refine Ev.bind (f := fun k bt239 => (if bt239.2 = 0 then (if bt239.1.size ≤ 140737488355328 then ((some ((bytesOf bt239.1) : List Int)).bind fun y242 => (if (y242.length : Int) = (wrap64 (16 + n)) then (if n = 0 then (none) else (if 0 ≤ ((12 + p.toNat : Nat) : Int) then (if ((12 + p.toNat : Nat) : Int) < (y242.length : Int) then ((chunk_Split.f k (strOfNums (y242.set (((12 + p.toNat : Nat) : Int) : Int).toNat (Go.bits .xor .u8 (rd y242 ((12 + p.toNat : Nat) : Int)) by_)))).bind fun bt247 => (if bt247.2 = 22 then ((vitrinelaw07_awake.f k).bind fun t251 => (some t251)) else (if bt247.2 = 21 then (if ((12 + p.toNat : Nat) : Int) < 16 then ((vitrinelaw07_awake.f k).bind fun t252 => (some t252)) else (some false)) else (some false)))) else (none)) else (none))) else (some false))) else (none)) else (if bt239.2 = 21 then ((vitrinelaw07_awake.f k).bind fun t241 => (some t241)) else (some false)))) (join_one_bad t d (by omega) hnam) ?_
          refine Ev.congr (fun k => ?_) awake_id
          rw [if_neg (by decide), if_pos rfl]

end Go.Proofs.Ytfgbfbhllbejpaa.Pure
