/- BandsApart, plain: unlike rasters have unlike manifests, unless two unlike bands have one hash. No condition. -/
import Derived.Test.YtbonmhgihedjpaaPL15x4
import Derived.Test.YtbonmhgihedjpaaPL15x9
import Derived.Test.YtbonmhgihedjpaaPL15x11
import Derived.Test.YtbonmhgihedjpaaPL15x16
import Derived.Test.YtbonmhgihedjpaaPL15x20
import Derived.Test.YtbonmhgihedjpaaPureB15
namespace Go.Proofs.Ytbonmhgihedjpaa.Pure
open Go.RowKit Go.Proofs.YtbonmhgihedjpaaW.PrintWords Go.Proofs.YtbonmhgihedjpaaW.PrintLast Go.Proofs.YtbonmhgihedjpaaW.PrintMore Go.Proofs.Ytbonmhgihedjpaa.PL15
set_option linter.unusedVariables false
set_option linter.unusedSimpArgs false
theorem app_inj {a b c d : ByteArray} (h : a ++ b = c ++ d) (hs : a.size = c.size) : a = c ∧ b = d := by
  have h1 : a.data.toList ++ b.data.toList = c.data.toList ++ d.data.toList := by
    have := congrArg (fun x : ByteArray => x.data.toList) h
    simpa using this
  have h2 := List.append_inj h1 (by rw [data_length, data_length]; exact hs)
  refine ⟨?_, ?_⟩
  · rw [← toList_eq, toList_data, toList_data]; exact h2.1
  · rw [← toList_eq, toList_data, toList_data]; exact h2.2
theorem cat_inj {f g : Nat → ByteArray} (hf : ∀ i, (f i).size = 32) (hg : ∀ i, (g i).size = 32) : ∀ n, cat f n = cat g n → ∀ i, i < n → f i = g i
  | 0, _, i, hi => absurd hi (by omega)
  | n + 1, h, i, hi => by
    have := app_inj (a := cat f n) (b := f n) (c := cat g n) (d := g n) h (by rw [cat_size hf, cat_size hg])
    by_cases e : i = n
    · rw [e]; exact this.2
    · exact cat_inj hf hg n this.1 i (by omega)
theorem be4_inj {a b : Int} (ha : 0 ≤ a) (ha2 : a < 4294967296) (hb : 0 ≤ b) (hb2 : b < 4294967296) (h : be4 a = be4 b) : a = b := by
  rw [← num4_be4 ha ha2, h, num4_be4 hb hb2]
/-- The first i bands' bytes are the raster's first bytes. -/
theorem front_eq {R h : Nat} {s t : ByteArray} : ∀ i, i ≤ mb h → (∀ j, j < i → piece R h s j = piece R h t j) → s.extract 0 (R * min (8 * i) h) = t.extract 0 (R * min (8 * i) h)
  | 0, _, _ => by
    rw [show R * min (8 * 0) h = 0 by rw [show min (8 * 0) h = 0 by omega, Nat.mul_zero]]
    have z1 : (s.extract 0 0).size = 0 := by rw [ByteArray.size_extract]; omega
    have z2 : (t.extract 0 0).size = 0 := by rw [ByteArray.size_extract]; omega
    rw [ByteArray.size_eq_zero_iff.1 z1, ByteArray.size_eq_zero_iff.1 z2]
  | i + 1, hi, hp => by
    have ih := front_eq (R := R) (h := h) (s := s) (t := t) i (by omega) (fun j hj => hp j (by omega))
    have h8 : 8 * i < h := by unfold mb at hi; omega
    have e1 : min (8 * i) h = 8 * i := by omega
    rw [e1] at ih
    have hle : R * (8 * i) ≤ R * be_ h i := Nat.mul_le_mul_left R (by unfold be_; omega)
    have key : ∀ u : ByteArray, u.extract 0 (R * min (8 * (i + 1)) h) = u.extract 0 (R * (8 * i)) ++ piece R h u i := by
      intro u
      unfold piece
      rw [ByteArray.extract_append_extract]
      show u.extract 0 (R * be_ h i) = _
      congr 1 <;> omega
    rw [key s, key t, ih, hp i (by omega)]
theorem whole_eq {R h : Nat} {s t : ByteArray} (hs : s.size = R * h) (ht : t.size = R * h) (hp : ∀ j, j < mb h → piece R h s j = piece R h t j) : s = t := by
  have h1 := front_eq (R := R) (h := h) (s := s) (t := t) (mb h) (Nat.le_refl _) hp
  have e : min (8 * mb h) h = h := by unfold mb; omega
  have f1 : s.extract 0 (R * min (8 * mb h) h) = s := by rw [e, ← hs]; exact ByteArray.extract_zero_size
  have f2 : t.extract 0 (R * min (8 * mb h) h) = t := by rw [e, ← ht]; exact ByteArray.extract_zero_size
  rw [f1, f2] at h1
  exact h1
theorem apart_loop {R h : Nat} {s t : ByteArray} (hs : s.size = R * h) (ht : t.size = R * h) (hR : R ≤ 8192) (hh : h ≤ 1024) (hne : s ≠ t) (hsum : ∀ i, i < mb h → shaS (piece R h s i) = shaS (piece R h t i)) : ∀ d i : Nat, i + d = mb h → (∀ j, j < i → piece R h s j = piece R h t j) → Ev (fun k => vitrinelaw15_BandsApart.l0 k (pieces R h s (mb h)) (pieces R h t (mb h)) (i : Int)) true := by
  intro d
  induction d with
  | zero =>
    intro i hi hp
    exact absurd (whole_eq hs ht (fun j hj => hp j (by omega))) hne
  | succ d ih =>
    intro i hi hp
    have hlt : i < mb h := by omega
    have hmb := mb_le hh
    have w1 : wrap64 ((i : Int) + 1) = ((i + 1 : Nat) : Int) := w_succ (by omega)
    have r1 : rdOf ByteArray.empty (pieces R h s (mb h)) (i : Int) = piece R h s i := rdOf_map _ _ _ hlt
    have r2 : rdOf ByteArray.empty (pieces R h t (mb h)) (i : Int) = piece R h t i := rdOf_map _ _ _ hlt
    have l1 := pieces_len R h s (mb h)
    have l2 := pieces_len R h t (mb h)
    refine Ev.step (f := fun k => vitrinelaw15_BandsApart.j2 k (pieces R h s (mb h)) (pieces R h t (mb h)) (i : Int) true) (fun k => ?_) ?_
    · simp only [vitrinelaw15_BandsApart.l0]
      rw [if_pos (by omega), decide_eq_true (by omega)]
    · by_cases hp1 : piece R h s i = piece R h t i
      · refine Ev.step (fun k => ?_) (ih (i + 1) (by omega) (fun j hj => by by_cases e : j = i; (· rw [e]; exact hp1); exact hp j (by omega)))
        simp only [vitrinelaw15_BandsApart.j2]
        rw [if_pos trivial, if_pos (by omega), if_pos (by omega), if_pos (by omega), r1, r2, w1, if_pos (by rw [hp1])]
      · refine Ev.step (f := fun k => (sha_Sum.f k (piece R h s i)).bind fun t321 => ((sha_Sum.f k (piece R h t i)).bind fun t323 => (if t321.toList = t323.toList then ((vitrinelaw15_awake.f k).bind fun t324 => (some t324)) else (vitrinelaw15_BandsApart.l0 k (pieces R h s (mb h)) (pieces R h t (mb h)) (wrap64 ((i : Int) + 1)))))) (fun k => ?_) ?_
        · simp only [vitrinelaw15_BandsApart.j2]
          rw [if_pos trivial, if_pos (by omega), if_pos (by omega), if_pos (by omega), r1, r2, if_neg (fun e => hp1 (toList_eq.1 e))]
        · refine Ev.bind (f := fun k t321 => ((sha_Sum.f k (piece R h t i)).bind fun t323 => (if t321.toList = t323.toList then ((vitrinelaw15_awake.f k).bind fun t324 => (some t324)) else (vitrinelaw15_BandsApart.l0 k (pieces R h s (mb h)) (pieces R h t (mb h)) (wrap64 ((i : Int) + 1)))))) (sum_ev (piece R h s i) (by have := piece_le hs hR i hlt; omega)) ?_
          refine Ev.bind (f := fun k t323 => (if (shaS (piece R h s i)).toList = t323.toList then ((vitrinelaw15_awake.f k).bind fun t324 => (some t324)) else (vitrinelaw15_BandsApart.l0 k (pieces R h s (mb h)) (pieces R h t (mb h)) (wrap64 ((i : Int) + 1))))) (sum_ev (piece R h t i) (by have := piece_le ht hR i hlt; omega)) ?_
          exact Ev.congr (fun k => by rw [if_pos (by rw [hsum i hlt])]) (ev_id awake15)
theorem BandsApart : ∀ (a0_0 : Int) (a0_1 : Int) (a0_2 : ByteArray) (a1_0 : Int) (a1_1 : Int) (a1_2 : ByteArray), ((Lit.int .i64 a0_0).wf = true) → ((Lit.int .i64 a0_1).wf = true) → (a0_2.size ≤ 140737488351232) → ((Lit.int .i64 a1_0).wf = true) → ((Lit.int .i64 a1_1).wf = true) → (a1_2.size ≤ 140737488351232) → ∃ k, vitrinelaw15_BandsApart.f k a0_0 a0_1 a0_2 a1_0 a1_1 a1_2 = some true := by
  intro W H s W' H' t _ _ _ _ _ _
  refine Ev.rounds ?_
  -- the one way in which rasters need not be looked at
  have jt : (!(W == W') || (!(H == H') || (!(s.toList == t.toList)))) = true ∨ (manV W H s).1 = (manV W' H' t).1 → Ev (fun k => vitrinelaw15_BandsApart.j0 k (manV W H s).1 (manV W' H' t).1 true W H s W' H' t) true := by
    intro h
    by_cases hd : (!(W == W') || (!(H == H') || (!(s.toList == t.toList)))) = true
    · refine Ev.step (f := fun k => (vitrinelaw15_awake.f k).bind fun t308 => (some t308)) (fun k => ?_) (ev_id awake15)
      simp only [vitrinelaw15_BandsApart.j0]
      rw [if_pos trivial, if_pos hd]
    · refine Ev.step (f := fun k => (vitrinelaw15_awake.f k).bind fun t308 => (some t308)) (fun k => ?_) (ev_id awake15)
      simp only [vitrinelaw15_BandsApart.j0]
      rw [if_pos trivial, if_neg hd, if_pos (by rw [h.resolve_left hd])]
  have same : ¬ (!(W == W') || (!(H == H') || (!(s.toList == t.toList)))) = true → W = W' ∧ H = H' ∧ s = t := by
    intro h
    simp only [Bool.not_eq_true, Bool.or_eq_false_iff, Bool.not_eq_false', beq_iff_eq] at h
    exact ⟨h.1, h.2.1, toList_eq.1 h.2.2⟩
  have jt' : Ev (fun k => vitrinelaw15_BandsApart.j0 k (manV W H s).1 (manV W' H' t).1 true W H s W' H' t) true := by
    by_cases hd : (!(W == W') || (!(H == H') || (!(s.toList == t.toList)))) = true
    · exact jt (.inl hd)
    · obtain ⟨rfl, rfl, rfl⟩ := same hd
      exact jt (.inr rfl)
  refine Ev.bind (f := fun k bt304 => ((bands_Manifest.f k W' H' t).bind fun bt306 => (if bt304.2 = 0 then (if bt306.2 = 0 then (if (W == W' && (H == H' && (s.toList == t.toList))) = true then (vitrinelaw15_BandsApart.j0 k bt304.1 bt306.1 true W H s W' H' t) else (vitrinelaw15_BandsApart.j0 k bt304.1 bt306.1 (bt304.1.toList != bt306.1.toList) W H s W' H' t)) else (vitrinelaw15_BandsApart.j0 k bt304.1 bt306.1 true W H s W' H' t)) else (vitrinelaw15_BandsApart.j0 k bt304.1 bt306.1 true W H s W' H' t)))) (Man_ev W H s) ?_
  refine Ev.bind (f := fun k bt306 => (if (manV W H s).2 = 0 then (if bt306.2 = 0 then (if (W == W' && (H == H' && (s.toList == t.toList))) = true then (vitrinelaw15_BandsApart.j0 k (manV W H s).1 bt306.1 true W H s W' H' t) else (vitrinelaw15_BandsApart.j0 k (manV W H s).1 bt306.1 ((manV W H s).1.toList != bt306.1.toList) W H s W' H' t)) else (vitrinelaw15_BandsApart.j0 k (manV W H s).1 bt306.1 true W H s W' H' t)) else (vitrinelaw15_BandsApart.j0 k (manV W H s).1 bt306.1 true W H s W' H' t))) (Man_ev W' H' t) ?_
  by_cases c1 : (manV W H s).2 = 0
  · simp only [if_pos c1]
    by_cases c2 : (manV W' H' t).2 = 0
    · simp only [if_pos c2]
      by_cases c3 : (W == W' && (H == H' && (s.toList == t.toList))) = true
      · simp only [if_pos c3]
        exact jt'
      · simp only [if_neg c3]
        by_cases c4 : (manV W H s).1 = (manV W' H' t).1
        · have e4 : ((manV W H s).1.toList != (manV W' H' t).1.toList) = false := bne_eq_false_iff_eq.mpr (by rw [c4])
          rw [e4]
          have k1 : chk W H s = 0 := by
            unfold manV at c1
            by_cases hc : chk W H s = 0
            · exact hc
            · rw [if_neg hc] at c1; exact c1
          have k2 : chk W' H' t = 0 := by
            unfold manV at c2
            by_cases hc : chk W' H' t = 0
            · exact hc
            · rw [if_neg hc] at c2; exact c2
          have k1' := k1
          have k2' := k2
          obtain ⟨w, h, rfl, rfl, h1, h2, h3, h4, h5, h6⟩ := chk_0 k1
          obtain ⟨w', h', rfl, rfl, g1, g2, g3, g4, g5, g6⟩ := chk_0 k2
          refine Ev.step (f := fun k => (bands_Cut.f k (w : Int) (h : Int) s).bind fun bt310 => ((bands_Cut.f k (w' : Int) (h' : Int) t).bind fun bt314 => (vitrinelaw15_BandsApart.l0 k bt310.1 bt314.1 0))) (fun k => ?_) ?_
          · simp only [vitrinelaw15_BandsApart.j0]
            rw [if_neg (by decide)]
          · refine Ev.bind (f := fun k bt310 => ((bands_Cut.f k (w' : Int) (h' : Int) t).bind fun bt314 => (vitrinelaw15_BandsApart.l0 k bt310.1 bt314.1 0))) (Cut_ev _ _ _) ?_
            refine Ev.bind (f := fun k bt314 => (vitrinelaw15_BandsApart.l0 k (cutV (w : Int) (h : Int) s).1 bt314.1 0)) (Cut_ev _ _ _) ?_
            unfold manV at c4
            rw [if_pos k1', if_pos k2'] at c4
            simp only [Int.toNat_natCast] at c4
            unfold manL at c4
            have z1 : (be4 (w : Int) ++ be4 (h : Int)).size = (be4 (w' : Int) ++ be4 (h' : Int)).size := by rw [ByteArray.size_append, ByteArray.size_append, be4_size, be4_size, be4_size, be4_size]
            obtain ⟨p1, p2⟩ := app_inj c4 z1
            obtain ⟨p3, p4⟩ := app_inj p1 (by rw [be4_size, be4_size])
            have ew : w = w' := by have := be4_inj (by omega) (by omega) (by omega) (by omega) p3; omega
            have eh : h = h' := by have := be4_inj (by omega) (by omega) (by omega) (by omega) p4; omega
            subst ew
            subst eh
            have hne : s ≠ t := by
              rintro rfl
              apply c3
              simp
            have hsum := cat_inj (fun i => shaS_size _) (fun i => shaS_size _) _ p2
            unfold cutV
            rw [if_pos k1', if_pos k2']
            simp only [Int.toNat_natCast]
            exact apart_loop (R := 8 * w) (h := h) h6 g6 (by omega) h4 hne hsum (mb h) 0 (by omega) (fun j hj => absurd hj (by omega))
        · have e4 : ((manV W H s).1.toList != (manV W' H' t).1.toList) = true := bne_iff_ne.mpr (fun e => c4 (toList_eq.1 e))
          rw [e4]
          exact jt'
    · simp only [if_neg c2]
      exact jt'
  · simp only [if_neg c1]
    exact jt'

end Go.Proofs.Ytbonmhgihedjpaa.Pure
