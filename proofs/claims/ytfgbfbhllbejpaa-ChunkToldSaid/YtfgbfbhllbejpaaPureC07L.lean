/- Layer 7 (chunk): the plain laws ChunkSplits, ChunkKinds, ChunkOne, ChunkBack. Conditions: strings and lists as long as the model allows. -/
import Derived.Test.YtfgbfbhllbejpaaPL07x4
import Derived.Test.YtfgbfbhllbejpaaPL07x5
import Derived.Test.YtfgbfbhllbejpaaPL07x6
import Derived.Test.YtfgbfbhllbejpaaPL07x10
import Derived.Test.YtfgbfbhllbejpaaPL07x14
import Derived.Test.YtfgbfbhllbejpaaPL07x16
import Derived.Test.YtfgbfbhllbejpaaPL07x17
import Derived.Test.YtfgbfbhllbejpaaPL07x18
import Derived.Test.YtfgbfbhllbejpaaPureC07
import Derived.KernelRfl
namespace Go.Proofs.Ytfgbfbhllbejpaa.Pure
open Go.RowKit Go.Proofs.YtfgbfbhllbejpaaW.PrintWords Go.Proofs.YtfgbfbhllbejpaaW.PrintLast Go.Proofs.YtfgbfbhllbejpaaW.PrintMore Go.Proofs.Ytfgbfbhllbejpaa.PL07
set_option linter.unusedVariables false
set_option linter.unusedSimpArgs false
theorem awake_ev : Ev (fun k => vitrinelaw07_awake.f k) true := by
  unfold vitrinelaw07_awake.f
  refine Ev.bind (Join_ev _ (by simp) (by decide)) (Ev.bind (Split_ev _ (by decide)) (Ev.bind (Split_ev _ (by decide)) ?_))
  rw [show joinS [⟨(⟨#[73, 69, 78, 68]⟩ : ByteArray), (⟨#[]⟩ : ByteArray)⟩] sig = ((⟨#[137, 80, 78, 71, 13, 10, 26, 10, 0, 0, 0, 0, 73, 69, 78, 68, 174, 66, 96, 130]⟩ : ByteArray), 0) from by kernel_rfl,
    show splitF (⟨#[137, 80, 78, 71, 13, 10, 26, 10]⟩ : ByteArray) = ([], 0) from by kernel_rfl, show splitF (⟨#[]⟩ : ByteArray) = ([], 20) from by kernel_rfl]
  simp only [toList_data]
  exact Ev.now _
theorem awake_id : Ev (fun k => (vitrinelaw07_awake.f k).bind fun t => some t) true := ev_id awake_ev
theorem ChunkSplits : ∀ (a0 : ByteArray), (a0.size ≤ 140737488351232) → ∃ k, vitrinelaw07_ChunkSplits.f k a0 = some true := by
  intro s hs
  refine Ev.rounds ?_
  unfold vitrinelaw07_ChunkSplits.f
  by_cases h : (s.size : Int) > 100000
  · simp only [if_pos h]; exact awake_id
  · simp only [if_neg h]
    refine Ev.bind (Split_ev s (by omega)) (Ev.bind (rSplit_ev s (by omega)) ?_)
    simp only [if_true]
    have := splitF_len s
    refine Ev.bind (chunks_ev _ (by omega)) ?_
    simp only [if_true]
    exact awake_id
theorem ChunkKinds : ∀ (a0 : ByteArray), (a0.size ≤ 140737488351232) → ∃ k, vitrinelaw07_ChunkKinds.f k a0 = some true := by
  intro s hs
  have hj : ∀ b : Bool, chunk_Critical.f s = some b → Ev (fun k => vitrinelaw07_ChunkKinds.j0 k s b) true := by
    intro b hb
    refine Ev.step (fun k => ?_) awake_id
    simp only [vitrinelaw07_ChunkKinds.j0]
    rw [hb]
    simp only [Option.bind_some]
    rw [if_pos (by simp)]
  refine Ev.rounds ?_
  unfold vitrinelaw07_ChunkKinds.f
  by_cases h : s.size = 0
  · simp only [if_neg (show ¬ (s.size : Int) > 0 by omega)]
    refine hj false ?_
    unfold chunk_Critical.f
    rw [if_pos ((toList_nil s).2 h)]
  · have hc : chunk_Critical.f s = some (decide (65 ≤ bt s 0 ∧ bt s 0 ≤ 90)) := by
      unfold chunk_Critical.f
      rw [if_neg (fun hn => h ((toList_nil s).1 hn)), if_pos (by omega), capital_f]
      rfl
    simp only [if_pos (show (s.size : Int) > 0 by omega), if_pos (show (0 : Int) < (s.size : Int) by omega)]
    by_cases h1 : bt s 0 ≥ 65
    · simp only [if_pos h1]
      refine hj _ ?_
      rw [hc]
      congr 1
      rw [decide_eq_decide]
      omega
    · simp only [if_neg h1]
      refine hj false ?_
      rw [hc, decide_eq_false (by omega)]
theorem ChunkOne : ∀ (a0 : ByteArray), (a0.size ≤ 140737488351232) → ∃ k, vitrinelaw07_ChunkOne.f k a0 = some true := by
  intro s hs
  refine Ev.rounds ?_
  unfold vitrinelaw07_ChunkOne.f
  by_cases h : (s.size : Int) > 10000
  · simp only [if_pos h]; exact awake_id
  · simp only [if_neg h]
    have hz : (⟨#[122, 122, 90, 90]⟩ : ByteArray).size = 4 := rfl
    generalize hq : (⟨#[122, 122, 90, 90]⟩ : ByteArray) = q at *
    refine Ev.bind (Join_ev [⟨q, s⟩] (by simp) (by simp only [tot]; omega)) ?_
    have hn : nam q = true := by subst hq; decide +kernel
    have hg : good ⟨q, s⟩ = true := by unfold good; rw [hn, decide_eq_true (show s.size ≤ 2147483647 by omega)]; rfl
    rw [show joinS [⟨q, s⟩] sig = (sig ++ enc ⟨q, s⟩, 0) from by show (if good ⟨q, s⟩ = true then _ else _) = _; rw [hg]; rfl]
    have hsz : (sig ++ enc ⟨q, s⟩).size = 20 + s.size := by rw [ByteArray.size_append, enc_size]; show 8 + (8 + q.size + s.size) = _; omega
    have e1 : (sig ++ enc ⟨q, s⟩).extract 8 16 = be4 (s.size : Int) ++ q := by
      unfold enc
      rw [ByteArray.append_assoc, ByteArray.append_assoc, ← ByteArray.append_assoc (a := be4 _) (b := q)]
      rw [show (8 : Nat) = sig.size + 0 from rfl, show (16 : Nat) = sig.size + 8 from rfl, ByteArray.extract_append_size_add]
      exact ByteArray.extract_append_eq_left (by rw [ByteArray.size_append, be4_size]; omega)
    have e2 : (sig ++ enc ⟨q, s⟩).extract 16 (16 + s.size) = s := by
      unfold enc
      rw [ByteArray.append_assoc, ByteArray.append_assoc, ← ByteArray.append_assoc (a := be4 _) (b := q), ← ByteArray.append_assoc (a := sig)]
      have h16 : (sig ++ (be4 (s.size : Int) ++ q)).size = 16 := by rw [ByteArray.size_append, ByteArray.size_append, be4_size]; show 8 + _ = _; omega
      have := ByteArray.extract_append_size_add (a := sig ++ (be4 (s.size : Int) ++ q)) (b := s ++ be4 (crc (q ++ s))) (i := 0) (j := s.size)
      rw [h16] at this
      rw [show 16 = 16 + 0 from rfl, this]
      exact ByteArray.extract_append_eq_left rfl
    have e3 : strOfNums ([0, 0, (wrap64 ((s.size : Int) / 256)) % 256, (s.size : Int) % 256] : List Int) = be4 (s.size : Int) := by
      unfold be4
      rw [w64 (by omega) (by omega)]
      congr 1
      congr 1
      · omega
      · congr 1
        omega
    simp only [if_true]
    have z1 : (((sig ++ enc ⟨q, s⟩).size : Nat) : Int) = wrap64 (20 + (s.size : Int)) := by rw [hsz, w64 (by omega) (by omega)]; omega
    have z2 : wrap64 (16 + (s.size : Int)) = ((16 + s.size : Nat) : Int) := by rw [w64 (by omega) (by omega)]; omega
    simp only [if_pos z1, if_pos (show (8 : Nat) ≤ 16 by omega), if_pos (show (16 : Int) ≤ ((sig ++ enc ⟨q, s⟩).size : Int) by rw [hsz]; omega), Option.bind_some, e3]
    rw [e1]
    simp only [if_pos (show (be4 (s.size : Int)).size + 4 ≤ 9223372036854775807 by rw [be4_size]; omega), if_true, z2, if_pos (show (16 : Int) ≤ ((16 + s.size : Nat) : Int) by omega), if_pos (show ((16 + s.size : Nat) : Int) ≤ ((sig ++ enc ⟨q, s⟩).size : Int) by rw [hsz]; omega), Int.toNat_natCast, e2]
    exact awake_id
/-- The bytes of chunks. -/
def encs : List S35 → ByteArray
  | [] => ⟨#[]⟩
  | c :: cs => enc c ++ encs cs
theorem join_good : ∀ (l : List S35) (acc : ByteArray), (∀ c ∈ l, good c = true) → joinS l acc = (acc ++ encs l, 0)
  | [], acc, _ => by
    show (acc, (0 : Int)) = (acc ++ (⟨#[]⟩ : ByteArray), 0)
    rw [show (⟨#[]⟩ : ByteArray) = ByteArray.empty from rfl, ByteArray.append_empty]
  | c :: cs, acc, h => by
    show (if good c = true then _ else _) = _
    rw [if_pos (h c List.mem_cons_self), join_good cs (acc ++ enc c) (fun x hx => h x (List.mem_cons_of_mem _ hx)), ByteArray.append_assoc]
    rfl
theorem join_bad : ∀ (l : List S35) (acc : ByteArray), ¬ (∀ c ∈ l, good c = true) → joinS l acc = (⟨#[]⟩, 21)
  | [], acc, h => absurd (fun c hc => by cases hc) h
  | c :: cs, acc, h => by
    show (if good c = true then _ else _) = _
    by_cases hg : good c = true
    · rw [if_pos hg]
      refine join_bad cs _ (fun hc => h ?_)
      intro x hx
      rcases List.mem_cons.1 hx with rfl | hx
      · exact hg
      · exact hc x hx
    · rw [if_neg hg]
theorem next_enc (c : S35) (r : ByteArray) (hg : good c = true) : nextS (enc c ++ r) = (c.f0, c.f1, r, 0) := by
  unfold good at hg
  rw [Bool.and_eq_true] at hg
  have hn := hg.1
  have h4 := nam_size hn
  have hd := of_decide_eq_true hg.2
  have hsz : (enc c ++ r).size = 12 + c.f1.size + r.size := by rw [ByteArray.size_append, enc_size, h4]
  have hnum : num4 (enc c ++ r) = (c.f1.size : Int) := by
    unfold enc
    rw [ByteArray.append_assoc, ByteArray.append_assoc, num4_app _ _ (by rw [be4_size]; omega), num4_be4 (by omega) (by omega)]
  have e : enc c ++ r = be4 (c.f1.size : Int) ++ (c.f0 ++ (c.f1 ++ (be4 (crc (c.f0 ++ c.f1)) ++ r))) := by
    unfold enc
    simp only [ByteArray.append_assoc]
  have x1 : (enc c ++ r).extract 4 8 = c.f0 := by
    rw [e]
    have := ByteArray.extract_append_size_add (a := be4 (c.f1.size : Int)) (b := c.f0 ++ (c.f1 ++ (be4 (crc (c.f0 ++ c.f1)) ++ r))) (i := 0) (j := 4)
    rw [be4_size] at this
    rw [this]
    exact ByteArray.extract_append_eq_left h4.symm
  have x2 : (enc c ++ r).extract 8 (8 + c.f1.size) = c.f1 := by
    rw [e, ← ByteArray.append_assoc]
    have := ByteArray.extract_append_size_add (a := be4 (c.f1.size : Int) ++ c.f0) (b := c.f1 ++ (be4 (crc (c.f0 ++ c.f1)) ++ r)) (i := 0) (j := c.f1.size)
    rw [ByteArray.size_append, be4_size, h4] at this
    rw [show 8 = 4 + 4 + 0 from rfl, this]
    exact ByteArray.extract_append_eq_left rfl
  have x3 : (enc c ++ r).extract 4 (8 + c.f1.size) = c.f0 ++ c.f1 := by
    rw [ByteArray.extract_eq_extract_append_extract 8 (by omega) (by omega), x1, x2]
  have x4 : (enc c ++ r).extract (8 + c.f1.size) (enc c ++ r).size = be4 (crc (c.f0 ++ c.f1)) ++ r := by
    rw [hsz, e, ← ByteArray.append_assoc, ← ByteArray.append_assoc]
    refine ByteArray.extract_append_eq_right ?_ ?_
    · rw [ByteArray.size_append, ByteArray.size_append, be4_size, h4]
    · rw [ByteArray.size_append, ByteArray.size_append, ByteArray.size_append, be4_size, be4_size, h4]; omega
  have x5 : (enc c ++ r).extract (12 + c.f1.size) (enc c ++ r).size = r := by
    refine ByteArray.extract_append_eq_right ?_ ?_
    · rw [enc_size, h4]
    · rw [ByteArray.size_append]
  have hc := crc_range (c.f0 ++ c.f1)
  unfold nextS
  rw [if_neg (by omega), hnum, Int.toNat_natCast, x1, x2, x3, x4, x5, hn]
  rw [if_neg (by rintro (h | h); omega; cases h), if_neg (by omega), num4_app _ _ (by rw [be4_size]; omega), num4_be4 hc.1 hc.2, if_neg (fun h => h rfl)]
theorem split_encs : ∀ (l : List S35) (d : Nat) (out : List S35), (∀ c ∈ l, good c = true) → (encs l).size ≤ d → splitS d (encs l) out = (out ++ l, 0)
  | [], d, out, _, _ => by
    rw [List.append_nil]
    cases d with
    | zero => rfl
    | succ d => rfl
  | c :: cs, d, out, h, hd => by
    have hsz := enc_size c
    have h4 := nam_size (by have := h c List.mem_cons_self; unfold good at this; rw [Bool.and_eq_true] at this; exact this.1 : nam c.f0 = true)
    have hz : (encs (c :: cs)).size = (enc c).size + (encs cs).size := ByteArray.size_append
    obtain ⟨d, rfl⟩ : ∃ m, d = m + 1 := ⟨d - 1, by omega⟩
    unfold splitS
    rw [if_neg (by omega)]
    show (if (nextS (enc c ++ encs cs)).2.2.2 = 0 then splitS d (nextS (enc c ++ encs cs)).2.2.1 (out ++ [⟨(nextS (enc c ++ encs cs)).1, (nextS (enc c ++ encs cs)).2.1⟩]) else ([], (nextS (enc c ++ encs cs)).2.2.2)) = _
    rw [next_enc c _ (h c List.mem_cons_self), if_pos rfl, split_encs cs d _ (fun x hx => h x (List.mem_cons_of_mem _ hx)) (by omega), List.append_assoc]
    rfl
theorem next_back {s : ByteArray} (h : (nextS s).2.2.2 = 0) : good ⟨(nextS s).1, (nextS s).2.1⟩ = true ∧ s = enc ⟨(nextS s).1, (nextS s).2.1⟩ ++ (nextS s).2.2.1 := by
  unfold nextS at h ⊢
  by_cases h1 : s.size < 8
  · rw [if_pos h1] at h; cases h
  · rw [if_neg h1] at h ⊢
    by_cases h2 : num4 s > 2147483647 ∨ nam (s.extract 4 8) = false
    · rw [if_pos h2] at h; cases h
    · rw [if_neg h2] at h ⊢
      by_cases h3 : (s.size : Int) < 12 + num4 s
      · rw [if_pos h3] at h; cases h
      · rw [if_neg h3] at h ⊢
        by_cases h4 : num4 (s.extract (8 + (num4 s).toNat) s.size) ≠ crc (s.extract 4 (8 + (num4 s).toNat))
        · rw [if_pos h4] at h; cases h
        · rw [if_neg h4]
          dsimp only
          have hr := num4_range s
          have hnam : nam (s.extract 4 8) = true := by cases hq : nam (s.extract 4 8) with | true => rfl | false => exact absurd (.inr hq) h2
          have hn : ¬ num4 s > 2147483647 := fun hq => h2 (.inl hq)
          have hds : (s.extract 8 (8 + (num4 s).toNat)).size = (num4 s).toNat := by rw [ByteArray.size_extract]; omega
          have hcr : num4 (s.extract (8 + (num4 s).toNat) s.size) = crc (s.extract 4 (8 + (num4 s).toNat)) := by
            by_cases hq : num4 (s.extract (8 + (num4 s).toNat) s.size) = crc (s.extract 4 (8 + (num4 s).toNat))
            · exact hq
            · exact absurd hq h4
          refine ⟨?_, ?_⟩
          · unfold good
            rw [hnam, decide_eq_true (by dsimp only; omega)]
            rfl
          · unfold enc
            dsimp only
            have e0 : num4 (s.extract 0 4) = num4 s := by
              have := num4_extract s 0 s.size (by omega) (by omega)
              rw [ByteArray.extract_zero_size] at this
              exact this.symm
            have b1 : be4 (num4 s) = s.extract 0 4 := by rw [← e0]; exact be4_num4 _ (by rw [ByteArray.size_extract]; omega)
            have e1 : s.extract 4 8 ++ s.extract 8 (8 + (num4 s).toNat) = s.extract 4 (8 + (num4 s).toNat) := (ByteArray.extract_eq_extract_append_extract 8 (by omega) (by omega)).symm
            rw [hds, Int.toNat_of_nonneg hr.1, b1, e1, ← hcr, num4_extract s (8 + (num4 s).toNat) s.size (by omega) (by omega), be4_num4 (s.extract (8 + (num4 s).toNat) (8 + (num4 s).toNat + 4)) (by rw [ByteArray.size_extract]; omega)]
            rw [← ByteArray.extract_eq_extract_append_extract 4 (by omega) (by omega), ← ByteArray.extract_eq_extract_append_extract (8 + (num4 s).toNat) (by omega) (by omega), show 8 + (num4 s).toNat + 4 = 12 + (num4 s).toNat by omega, ← ByteArray.extract_eq_extract_append_extract (12 + (num4 s).toNat) (by omega) (by omega), ByteArray.extract_zero_size]
theorem split_back : ∀ (d : Nat) (s : ByteArray) (out : List S35), s.size ≤ d → (splitS d s out).2 = 0 → ∃ l, (splitS d s out).1 = out ++ l ∧ s = encs l ∧ ∀ c ∈ l, good c = true
  | 0, s, out, h, _ => ⟨[], by rw [List.append_nil]; rfl, ByteArray.size_eq_zero_iff.1 (by omega), fun c hc => by cases hc⟩
  | d + 1, s, out, h, he => by
    unfold splitS at he ⊢
    by_cases h0 : s.size = 0
    · rw [if_pos h0]
      exact ⟨[], by rw [List.append_nil], ByteArray.size_eq_zero_iff.1 h0, fun c hc => by cases hc⟩
    · rw [if_neg h0] at he ⊢
      by_cases hz : (nextS s).2.2.2 = 0
      · rw [if_pos hz] at he ⊢
        have hr := next_rest hz
        obtain ⟨hg, hs⟩ := next_back hz
        obtain ⟨l, h1, h2, h3⟩ := split_back d (nextS s).2.2.1 _ (by omega) he
        refine ⟨⟨(nextS s).1, (nextS s).2.1⟩ :: l, ?_, ?_, ?_⟩
        · rw [h1, List.append_assoc]; rfl
        · show s = enc _ ++ encs l
          rw [← h2]
          exact hs
        · intro c hc
          rcases List.mem_cons.1 hc with rfl | hc
          · exact hg
          · exact h3 c hc
      · rw [if_neg hz] at he
        exact absurd he hz
theorem tot_encs : ∀ (l : List S35), (encs l).size + 4 * l.length = tot l
  | [] => rfl
  | c :: cs => by
    have := tot_encs cs
    have hz : (encs (c :: cs)).size = (enc c).size + (encs cs).size := ByteArray.size_append
    rw [hz, enc_size, List.length_cons]
    unfold tot
    omega
theorem len_encs : ∀ (l : List S35), 8 * l.length ≤ (encs l).size
  | [] => Nat.zero_le _
  | c :: cs => by
    have := len_encs cs
    have hz : (encs (c :: cs)).size = (enc c).size + (encs cs).size := ByteArray.size_append
    rw [hz, enc_size, List.length_cons]
    omega
theorem ChunkBack : ∀ (l0 : List (S35)) (a1 : ByteArray), (l0.length ≤ maxLen ∧ l0.length * 32 ≤ 140737488351232 ∧ ∀ y_ ∈ l0, okS35 y_) → (a1.size ≤ 140737488351232) → ∃ k, vitrinelaw07_ChunkBack.f k l0 a1 = some true := by
  intro l file ⟨_, hl, hok⟩ hfile
  have hj : Ev (fun k => vitrinelaw07_ChunkBack.j0 k file) true := by
    by_cases hf : (file.size : Int) ≤ 100000
    · refine Ev.step (f := fun k => ((chunk_Split.f k file).bind fun bt221 => (if bt221.2 = 0 then ((chunk_Join.f k bt221.1).bind fun bt225 => (if bt225.2 = 0 then (if bt225.1.toList = file.toList then ((vitrinelaw07_awake.f k).bind fun t227 => (some t227)) else (some false)) else (some false))) else ((vitrinelaw07_awake.f k).bind fun t228 => (some t228))))) (fun k => ?_) (Ev.bind (Split_ev file (by omega)) ?_)
      · simp only [vitrinelaw07_ChunkBack.j0]
        rw [if_pos hf]
      · by_cases he : (splitF file).2 = 0
        · simp only [if_pos he]
          unfold splitF at he ⊢
          by_cases hb : file.size < 8 ∨ file.extract 0 8 ≠ sig
          · rw [if_pos hb] at he; cases he
          · rw [if_neg hb] at he ⊢
            have h8 : ¬ file.size < 8 := fun h => hb (.inl h)
            have hsig : file.extract 0 8 = sig := by
              by_cases hq : file.extract 0 8 = sig
              · exact hq
              · exact absurd (.inr hq) hb
            obtain ⟨m, h1, h2, h3⟩ := split_back file.size _ [] (by rw [ByteArray.size_extract]; omega) he
            rw [h1, List.nil_append]
            have h5 := tot_encs m
            have h6 := len_encs m
            have h7 : (encs m).size = file.size - 8 := by rw [← h2, ByteArray.size_extract]; omega
            refine Ev.bind (Join_ev m (by omega) (by omega)) ?_
            rw [join_good m sig h3, ← h2, ← hsig, ← ByteArray.extract_eq_extract_append_extract 8 (by omega) (by omega), ByteArray.extract_zero_size]
            simp only [if_true]
            exact awake_id
        · simp only [if_neg he]
          exact awake_id
    · refine Ev.step (fun k => ?_) awake_id
      simp only [vitrinelaw07_ChunkBack.j0]
      rw [if_neg hf]
  refine Ev.rounds ?_
  unfold vitrinelaw07_ChunkBack.f
  obtain ⟨b, hb, hbt⟩ := few_ev l (by omega) hok
  refine Ev.bind hb ?_
  cases b with
  | false =>
    simp only [Bool.false_eq_true, if_false]
    exact hj
  | true =>
    have ht := hbt rfl
    simp only [if_true]
    refine Ev.bind (Join_ev l (by omega) (by omega)) ?_
    by_cases hg : ∀ c ∈ l, good c = true
    · rw [join_good l sig hg]
      simp only [if_true]
      have h5 := tot_encs l
      have hz : (sig ++ encs l).size = 8 + (encs l).size := ByteArray.size_append
      refine Ev.bind (Split_ev _ (by omega)) ?_
      have hs : splitF (sig ++ encs l) = (l, 0) := by
        unfold splitF
        rw [if_neg (by rintro (h | h); omega; exact h (ByteArray.extract_append_eq_left rfl)), ByteArray.extract_append_eq_right (show 8 = sig.size from rfl) ByteArray.size_append, split_encs l _ [] hg (by omega), List.nil_append]
      rw [hs]
      simp only [if_true]
      refine Ev.bind (chunks_ev l (by omega)) ?_
      simp only [if_true]
      exact hj
    · rw [join_bad l sig hg]
      simp only [if_neg (show ¬ (21 : Int) = 0 by decide), if_true, if_pos ((toList_nil (⟨#[]⟩ : ByteArray)).2 rfl)]
      exact hj

end Go.Proofs.Ytfgbfbhllbejpaa.Pure
