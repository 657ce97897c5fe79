/- WireTold, plain: a byte of a message's bytes that is changed is told. Condition: as the law's own few. -/
import Derived.Test.YtnimhhhbefpifaaPL20x8
import Derived.Test.YtnimhhhbefpifaaPL20x9
import Derived.Test.YtnimhhhbefpifaaPL20x21
import Derived.Test.YtnimhhhbefpifaaPL20x22
import Derived.Test.YtnimhhhbefpifaaPL20x26
import Derived.Test.YtnimhhhbefpifaaPureW20
import Derived.Test.YtnimhhhbefpifaaPureTold
namespace Go.Proofs.Ytnimhhhbefpifaa.Pure
open Go.RowKit Go.Proofs.YtnimhhhbefpifaaW.PrintWords Go.Proofs.YtnimhhhbefpifaaW.PrintLast Go.Proofs.YtnimhhhbefpifaaW.PrintMore Go.Proofs.Ytnimhhhbefpifaa.PL20
set_option linter.unusedVariables false
set_option linter.unusedSimpArgs false
theorem or_byte {x y : Int} (hx0 : 0 ≤ x) (hx1 : x < 16777216) (hy0 : 0 ≤ y) (hy1 : y ≤ 255) : Go.bits .or .i64 (wrap64 (x * 256)) (wrap64 y) = x * 256 + y := by
  rw [w64 (x := x * 256) (by omega) (by omega), w64 (x := y) (by omega) (by omega)]
  exact or_join (x := x * 256) (y := y) 8 (by omega) (by omega) (by omega) hy0 (by omega) (by omega)
theorem scan4_ev (s : ByteArray) (hs : s.size = 4) : ∃ q, Ev (fun k => wire_scan_num.f k s false 4) (num4 s, q) := by
  have h0 := bt_range s 0; have h1 := bt_range s 1; have h2 := bt_range s 2; have h3 := bt_range s 3
  have e0 : s.extract 0 (4 : Int).toNat = s := by
    rw [show (4 : Int).toNat = s.size by rw [hs]; rfl, ByteArray.extract_zero_size]
  have ht : wire_scan_take.f s false 4 = some (s, s.extract 4 s.size, false) := by
    unfold wire_scan_take.f
    rw [if_neg (by decide), if_neg (by decide), if_neg (by omega), if_pos (by decide), if_pos (by omega), e0]
    rfl
  have hl := bytesOf_length s
  refine ⟨(s.extract 4 s.size, false), ?_⟩
  refine Ev.congr (f := fun k => wire_scan_num.l0 k 0 (bytesOf s) ((bytesOf s).length : Int) 0 (s.extract 4 s.size) false) (fun k => ?_) ?_
  · unfold wire_scan_num.f
    rw [ht, Option.bind_some, if_pos (by show s.size ≤ _; omega), Option.bind_some]
  · have st : ∀ (x : Int) (i : Nat) (hi : i < 4) (y : Int), 0 ≤ x → x < 16777216 → x * 256 + bt s (i : Int) = y → ∀ r, Ev (fun k => wire_scan_num.l0 k y (bytesOf s) ((bytesOf s).length : Int) ((i + 1 : Nat) : Int) (s.extract 4 s.size) false) r → Ev (fun k => wire_scan_num.l0 k x (bytesOf s) ((bytesOf s).length : Int) (i : Int) (s.extract 4 s.size) false) r := by
      intro x i hi y hx0 hx1 hy r hr
      have hb := bt_range s (i : Int)
      refine Ev.step (fun k => ?_) hr
      simp only [wire_scan_num.l0]
      rw [if_pos (by omega), if_pos (by omega), if_pos (by omega), rd_bytesOf, or_byte hx0 hx1 hb.1 (by omega), hy, w64 (x := (i : Int) + 1) (by omega) (by omega)]
      rfl
    refine st 0 0 (by decide) (bt s 0) (by omega) (by omega) (by show (0 : Int) * 256 + bt s 0 = bt s 0; omega) _ ?_
    refine st (bt s 0) 1 (by decide) (bt s 0 * 256 + bt s 1) (by omega) (by omega) rfl _ ?_
    refine st (bt s 0 * 256 + bt s 1) 2 (by decide) ((bt s 0 * 256 + bt s 1) * 256 + bt s 2) (by omega) (by omega) rfl _ ?_
    refine st ((bt s 0 * 256 + bt s 1) * 256 + bt s 2) 3 (by decide) (((bt s 0 * 256 + bt s 1) * 256 + bt s 2) * 256 + bt s 3) (by omega) (by omega) rfl _ ?_
    refine Ev.step (f := fun _ => some (((bt s 0 * 256 + bt s 1) * 256 + bt s 2) * 256 + bt s 3, s.extract 4 s.size, false)) (fun k => ?_) (ev_same (Ev.now _) ?_)
    · simp only [wire_scan_num.l0]
      rw [if_neg (by omega)]
    · unfold num4
      rw [show ((bt s 0 * 256 + bt s 1) * 256 + bt s 2) * 256 + bt s 3 = bt s 0 * 16777216 + bt s 1 * 65536 + bt s 2 * 256 + bt s 3 by omega]
theorem wnum4 (c : Int) : wnum c 4 ByteArray.empty = be4 c := by
  have e : ∀ d : Nat, d ≤ 64 → shr .i64 c (d : Int) = c / 2 ^ d := fun d hd => shr_pow hd
  have e3 := e 24 (by decide); have e2 := e 16 (by decide); have e1 := e 8 (by decide); have e0 := e 0 (by decide)
  have h : wnum c 4 ByteArray.empty = (((ByteArray.empty.push (UInt8.ofNat ((shr .i64 c ((24 : Nat) : Int)) % 256).toNat)).push (UInt8.ofNat ((shr .i64 c ((16 : Nat) : Int)) % 256).toNat)).push (UInt8.ofNat ((shr .i64 c ((8 : Nat) : Int)) % 256).toNat)).push (UInt8.ofNat ((shr .i64 c ((0 : Nat) : Int)) % 256).toNat) := rfl
  rw [h, e3, e2, e1, e0]
  unfold be4
  rw [show (2 : Int) ^ 24 = 16777216 from rfl, show (2 : Int) ^ 16 = 65536 from rfl, show (2 : Int) ^ 8 = 256 from rfl, show (2 : Int) ^ 0 = 1 from rfl, Int.ediv_one]
  rfl
/-- The bytes with one changed: what their sum is told to be is not their sum. -/
theorem told_ne (c : Int) (b : ByteArray) (hc : c = crc b) (p : Nat) {v : Int} (hv : 0 ≤ v ∧ v ≤ 255) (hp : p < (wnum c 4 ByteArray.empty ++ b).size) (hne : v ≠ bt (wnum c 4 ByteArray.empty ++ b) (p : Int)) : num4 ((chg (wnum c 4 ByteArray.empty ++ b) p v).extract 0 4) ≠ crc ((chg (wnum c 4 ByteArray.empty ++ b) p v).extract 4 (chg (wnum c 4 ByteArray.empty ++ b) p v).size) := by
  have hr := crc_range b
  rw [wnum4] at hp hne ⊢
  have hz4 := be4_size c
  obtain ⟨s, hs⟩ : ∃ s, be4 c ++ b = s := ⟨_, rfl⟩
  have hz : s.size = 4 + b.size := by rw [← hs, ByteArray.size_append, hz4]
  have x0 : s.extract 0 4 = be4 c := by rw [← hs]; exact ByteArray.extract_append_eq_left (a := be4 c) (b := b) (i := 4) hz4.symm
  have x4 : s.extract 4 s.size = b := by
    rw [← hs]
    exact ByteArray.extract_append_eq_right (a := be4 c) (b := b) (i := 4) (j := (be4 c ++ b).size) hz4.symm (by rw [ByteArray.size_append])
  have hn : num4 (s.extract 0 4) = c := by rw [x0, hc]; exact num4_be4 hr.1 hr.2
  rw [hs] at hp hne ⊢
  have hcz := chg_size s p v
  rw [hcz]
  by_cases h4 : p < 4
  · rw [chg_cut s p hv 4 s.size (Nat.le_refl _) (.inl h4), x4]
    intro he
    have hb : be4 (num4 ((chg s p v).extract 0 4)) = (chg s p v).extract 0 4 := be4_num4 _ (by rw [ByteArray.size_extract]; omega)
    rw [he, ← hc, ← x0] at hb
    have h1 := bt_extract s 0 4 p (by omega) (by omega)
    have h2 := bt_extract (chg s p v) 0 4 p (by omega) (by omega)
    rw [← hb, h1, Nat.zero_add, bt_chg s p hv p hp, if_pos rfl] at h2
    exact hne h2.symm
  · rw [chg_cut s p hv 0 4 (by omega) (.inr (by omega)), hn, hc]
    intro he
    refine chg_crc s p hv hne 4 s.size (Nat.le_refl _) (by omega) hp ?_
    rw [x4]
    exact he.symm
theorem WireTold : ∀ (a0_0 : Int) (a0_1 : Int) (a0_2 : Int) (a0_3 : Int) (a0_4 : ByteArray) (a0_5 : Int) (a0_6 : Int) (a0_7 : ByteArray) (l0_8 : List ByteArray) (a1 : Int) (a2 : Int), ((Lit.int .i64 a0_0).wf = true) → ((Lit.int .i64 a0_1).wf = true) → ((Lit.int .i64 a0_2).wf = true) → ((Lit.int .i64 a0_3).wf = true) → (a0_4.size ≤ 140737488351232) → ((Lit.int .i64 a0_5).wf = true) → ((Lit.int .i64 a0_6).wf = true) → (a0_7.size ≤ 140737488351232) → (l0_8.length ≤ maxLen ∧ l0_8.length * 16 ≤ 140737488351232 ∧ ∀ y_ ∈ l0_8, (fun s_ : ByteArray => s_.size ≤ 140737488351232) y_) → ((Lit.int .i64 a1).wf = true) → ((Lit.int .u8 a2).wf = true) → ∃ k, vitrinelaw20_WireTold.f k a0_0 a0_1 a0_2 a0_3 a0_4 a0_5 a0_6 a0_7 l0_8 a1 a2 = some true := by
  intro a0 a1 a2 a3 a4 a5 a6 a7 l at_ by_ _ _ _ _ _ _ _ _ _ _ hby
  have hby := wf_u8 hby
  refine Ev.rounds ?_
  have jt : Ev (fun k => vitrinelaw20_WireTold.j0 k at_ by_ true a0 a1 a2 a3 a4 a5 a6 a7 l) true := by
    refine Ev.step (fun k => ?_) (ev_id awake20)
    simp only [vitrinelaw20_WireTold.j0]
    rw [if_pos trivial]
  obtain ⟨b, h1, h2⟩ := wfew_ev a0 a1 a2 a3 a4 a5 a6 a7 l
  unfold vitrinelaw20_WireTold.f
  refine Ev.bind h1 ?_
  cases b with
  | false => exact Ev.congr (fun k => by rw [if_neg (by decide)]) jt
  | true =>
    have hf := h2 rfl
    simp only [if_true]
    by_cases hb0 : by_ = 0
    · rw [show (by_ == 0) = true from beq_iff_eq.mpr hb0]
      exact jt
    · rw [show (by_ == 0) = false from beq_eq_false_iff_ne.mpr hb0]
      refine Ev.step (fun k => by simp only [vitrinelaw20_WireTold.j0]; rw [if_neg (by decide)]) ?_
      refine Ev.bind (Enc_ev a0 a1 a2 a3 a4 a5 a6 a7 l hf) ?_
      unfold encV
      by_cases hr : rightB a0 a1 a2 a3 a4 a5 a6 a7 l.length = true
      · simp only [if_pos hr, if_true]
        have hz := wbody_le a0 a1 a2 a3 a4 a5 a6 a7 l hf
        obtain ⟨bd, hbd⟩ : ∃ bd, wbody a0 a1 a2 a3 a4 a5 a6 a7 l = bd := ⟨_, rfl⟩
        rw [hbd] at hz ⊢
        obtain ⟨s, hs⟩ : ∃ s, wnum (crc bd) 4 ByteArray.empty ++ bd = s := ⟨_, rfl⟩
        have hsz : s.size = 4 + bd.size := by
          have : ByteArray.empty.size = 0 := rfl
          rw [← hs, ByteArray.size_append, wnum_size]
          omega
        rw [hs]
        have hbl := bytesOf_length s
        obtain ⟨p, hp⟩ : ∃ p : Int, Int.tmod (wrap64 ((Int.tmod at_ ((bytesOf s).length : Int)) + ((bytesOf s).length : Int))) ((bytesOf s).length : Int) = p := ⟨_, rfl⟩
        have hpr := place_rg at_ (n := ((bytesOf s).length : Int)) (by omega) (by omega)
        rw [hp] at hpr
        obtain ⟨q, rfl⟩ : ∃ q : Nat, p = (q : Int) := ⟨p.toNat, by omega⟩
        obtain ⟨xr, xn⟩ := xor_u8 (bt_range s (q : Int)) hby hb0
        obtain ⟨v, hv⟩ : ∃ v, Go.bits .xor .u8 (bt s (q : Int)) by_ = v := ⟨_, rfl⟩
        rw [hv] at xr xn
        have hz2 := chg_size s q v
        refine Ev.congr (f := fun k => (wire_Decode.f k (chg s q v)).bind fun bt341 => (if bt341.2.2.2.2.2.2.2.2.2 = 17 then ((vitrinelaw20_awake.f k).bind fun t354 => (some t354)) else (some false))) (fun k => ?_) ?_
        · rw [if_pos (by omega), Option.bind_some, hp, if_neg (by omega), if_neg (by omega), if_pos (by omega), if_pos (by omega), rd_bytesOf, hv, Int.toNat_natCast]
          rfl
        · have hne := told_ne (crc bd) bd rfl q xr (by rw [hs]; omega) (by rw [hs]; exact xn)
          rw [hs] at hne
          obtain ⟨t, ht⟩ : ∃ t, chg s q v = t := ⟨_, rfl⟩
          rw [ht] at hne hz2 ⊢
          have hd : Ev (fun k => wire_Decode.f k t) (0, 0, 0, 0, (⟨#[]⟩ : ByteArray), 0, 0, (⟨#[]⟩ : ByteArray), ([] : List ByteArray), 17) := by
            obtain ⟨g, hg⟩ := scan4_ev (t.extract 0 4) (by rw [ByteArray.size_extract]; omega)
            have hc := Crc_ev (t.extract 4 t.size) (by rw [ByteArray.size_extract]; omega)
            unfold wire_Decode.f
            simp only [if_neg (show ¬ (t.size : Int) < 4 by omega), if_pos (show (0 : Int) ≤ 4 by decide), if_pos (show (4 : Int) ≤ (t.size : Int) by omega)]
            refine Ev.bind hg ?_
            refine Ev.bind hc ?_
            exact Ev.congr (fun k => by rw [if_neg hne]) (Ev.now _)
          refine Ev.bind (f := fun k bt341 => (if bt341.2.2.2.2.2.2.2.2.2 = 17 then ((vitrinelaw20_awake.f k).bind fun t354 => (some t354)) else (some false))) hd ?_
          exact Ev.congr (fun k => if_pos rfl) (ev_id awake20)
      · simp only [if_neg hr]
        exact Ev.congr (fun k => by rw [if_neg (by decide)]) (ev_id awake20)

end Go.Proofs.Ytnimhhhbefpifaa.Pure
