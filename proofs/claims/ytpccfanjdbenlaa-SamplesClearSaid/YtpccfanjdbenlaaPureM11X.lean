/- Layer 11 (samples), plain laws, fifth part: the pixel of samples, by the program. Conditions: a palette and a transparency of at most 2^47 - 4096 bytes; those that each lemma names. -/
import Derived.Test.YtpccfanjdbenlaaPM11x7
import Derived.Test.YtpccfanjdbenlaaPM11x8
import Derived.Test.YtpccfanjdbenlaaPM11x9
import Derived.Test.YtpccfanjdbenlaaPureM11A
import Derived.Test.YtpccfanjdbenlaaPureSmp
namespace Go.Proofs.Ytpccfanjdbenlaa.Pure
open Go.RowKit Go.Proofs.YtpccfanjdbenlaaW.PrintWords Go.Proofs.YtpccfanjdbenlaaW.PrintLast Go.Proofs.YtpccfanjdbenlaaW.PrintMore Go.Proofs.Ytpccfanjdbenlaa.PM11
set_option linter.unusedVariables false
set_option linter.unusedSimpArgs false
/-- The 8 bytes of four numbers of 16 bits. -/
def px (a b c d : Int) : ByteArray := strOfNums [a / 256 % 256, a % 256, b / 256 % 256, b % 256, c / 256 % 256, c % 256, d / 256 % 256, d % 256]
theorem pairs_ev (a b c d : Int) : Ev (fun k => samples_pairs.f k [a, b, c, d]) (px a b c d) := by
  have s : ∀ (k : Nat) (x : List Int) (v : Int) (i j : Int), x.length ≤ 100 → 0 ≤ i → i < 4 → wrap64 (i + 1) = j → rd [a, b, c, d] i = v → samples_pairs.l0 (k + 1) x [a, b, c, d] 4 i = samples_pairs.l0 k (x ++ [v / 256 % 256, v % 256]) [a, b, c, d] 4 j := by
    intro k x v i j hx h0 h1 hj hv
    have hlen : x.length + 2 < 140737488355328 := by omega
    simp only [samples_pairs.l0, Option.bind_some, List.length_cons, List.length_nil]
    rw [if_pos h1, if_pos h0, if_pos (by simpa using h1), hv, if_pos hlen, hj]
  unfold samples_pairs.f
  refine Ev.congr (f := fun k => samples_pairs.l0 k [] [a, b, c, d] 4 0) (fun k => rfl) ?_
  refine Ev.step (fun k => s k [] a 0 1 (by simp) (by decide) (by decide) (by decide +kernel) rfl) ?_
  refine Ev.step (fun k => s k _ b 1 2 (by simp) (by decide) (by decide) (by decide +kernel) rfl) ?_
  refine Ev.step (fun k => s k _ c 2 3 (by simp) (by decide) (by decide) (by decide +kernel) rfl) ?_
  refine Ev.step (fun k => s k _ d 3 4 (by simp) (by decide) (by decide) (by decide +kernel) rfl) ?_
  refine Ev.step (f := fun _ => some (px a b c d)) (fun k => ?_) (Ev.now _)
  simp only [samples_pairs.l0]
  rw [if_neg (by decide)]
  rfl
theorem bt_rest (s : ByteArray) {i j : Int} (h0 : 0 ≤ i) (h1 : 0 ≤ j) (h2 : i + j < s.size) : bt (s.extract i.toNat s.size) j = bt s (i + j) := by
  unfold bt
  have e1 : (s.extract i.toNat s.size).size = s.size - i.toNat := by simp [ByteArray.size_extract]
  rw [dif_pos (by rw [e1]; omega), dif_pos (by omega)]
  congr 2
  have := ByteArray.getElem_extract (b := s) (i := j.toNat) (start := i.toNat) (stop := s.size) (by rw [e1]; omega)
  rw [this]
  congr 1
  omega
/-- The pixel of a palette's colour. -/
def lst (pal tr : ByteArray) (has : Bool) (a : Int) : ByteArray × Int :=
  if 3 * a + 3 > (pal.size : Int) then (⟨#[]⟩, 29) else (px (257 * bt pal (3 * a)) (257 * bt pal (3 * a + 1)) (257 * bt pal (3 * a + 2)) (if has = true ∧ a < (tr.size : Int) then 257 * bt tr a else 65535), 0)
theorem wid8 {x : Int} (h : 0 ≤ x ∧ x ≤ 255) : wid x 8 = 257 * x := by
  have e : pw 8 = 256 := rfl
  unfold wid
  rw [if_pos (show kn 8 = true from rfl), e]
  omega
theorem listed_go {k0 : Nat} {a alpha s0 s1 s2 s3 s4 : Int} {pal tr : ByteArray} {has : Bool} (ha : 0 ≤ a) (h : 3 * a + 3 ≤ (pal.size : Int)) (hz : pal.size ≤ 140737488351232) (hal : 0 ≤ alpha ∧ alpha ≤ 255) :
    Ev (fun k => samples_listed.j1 k a alpha s0 s1 s2 s3 s4 pal tr has) (px (257 * bt pal (3 * a)) (257 * bt pal (3 * a + 1)) (257 * bt pal (3 * a + 2)) (257 * alpha), 0) := by
  have w1 : wrap64 (3 * a) = 3 * a := w64 (by omega) (by omega)
  have e1 : ((pal.extract (3 * a).toNat pal.size).size : Int) = (pal.size : Int) - 3 * a := by rw [ByteArray.size_extract]; omega
  have b0 := bt_rest pal (i := 3 * a) (j := 0) (by omega) (by decide) (by omega)
  have b1 := bt_rest pal (i := 3 * a) (j := 1) (by omega) (by decide) (by omega)
  have b2 := bt_rest pal (i := 3 * a) (j := 2) (by omega) (by decide) (by omega)
  rw [Int.add_zero] at b0
  refine Ev.step (f := fun k => (samples_Wide.f k (bt pal (3 * a)) 8).bind fun t140 => (samples_Wide.f k (bt pal (3 * a + 1)) 8).bind fun t141 => (samples_Wide.f k (bt pal (3 * a + 2)) 8).bind fun t142 => (samples_Wide.f k alpha 8).bind fun t143 => (samples_pairs.f k [t140, t141, t142, t143]).bind fun t147 => some (t147, 0)) (fun k => ?_) ?_
  · simp only [samples_listed.j1]
    rw [w1, b0, b1, b2, w64_bt, w64_bt, w64_bt, e1, if_pos (by omega), if_pos (by omega), if_pos (by omega)]
    simp only [show (1 : Int) < (pal.size : Int) - 3 * a by omega, show (2 : Int) < (pal.size : Int) - 3 * a by omega, if_true]
  · refine Ev.bind (Wide_ev _ 8) (Ev.bind (Wide_ev _ 8) (Ev.bind (Wide_ev _ 8) (Ev.bind (Wide_ev _ 8) ?_)))
    rw [wid8 (bt_range _ _), wid8 (bt_range _ _), wid8 (bt_range _ _), wid8 hal]
    exact Ev.bind (pairs_ev _ _ _ _) (Ev.now _)
theorem listed_ev {a s0 s1 s2 s3 s4 : Int} {pal tr : ByteArray} {has : Bool} (ha : 0 ≤ a) (hz : pal.size ≤ 140737488351232) : Ev (fun k => samples_listed.f k s0 s1 s2 s3 s4 pal tr has a) (lst pal tr has a) := by
  have w1 : wrap64 ((pal.size : Int) / 3) = (pal.size : Int) / 3 := w64 (by omega) (by omega)
  unfold samples_listed.f lst
  rw [w1]
  by_cases h : a ≥ (pal.size : Int) / 3
  · simp only [h, if_true]
    rw [if_pos (by omega)]
    exact Ev.now _
  · simp only [h, if_false]
    rw [if_neg (by omega)]
    have h3 : 3 * a + 3 ≤ (pal.size : Int) := by omega
    have go : ∀ alpha : Int, (0 ≤ alpha ∧ alpha ≤ 255) → Ev (fun k => samples_listed.j1 k a alpha s0 s1 s2 s3 s4 pal tr has) (px (257 * bt pal (3 * a)) (257 * bt pal (3 * a + 1)) (257 * bt pal (3 * a + 2)) (257 * alpha), 0) := fun alpha hal => listed_go (k0 := 0) ha h3 hz hal
    have no : Ev (fun k => samples_listed.j0 k a 255 false s0 s1 s2 s3 s4 pal tr has) (px (257 * bt pal (3 * a)) (257 * bt pal (3 * a + 1)) (257 * bt pal (3 * a + 2)) 65535, 0) := by
      refine Ev.step (fun k => ?_) (go 255 (by omega))
      simp only [samples_listed.j0, Bool.false_eq_true, if_false]
    cases has with
    | false => simpa using no
    | true =>
      simp only [if_true]
      by_cases ht : a < (tr.size : Int)
      · rw [decide_eq_true ht, if_pos ⟨trivial, ht⟩]
        refine Ev.step (fun k => ?_) (go (bt tr a) (bt_range _ _))
        simp only [samples_listed.j0, if_true]
        rw [if_pos ha, if_pos ht, w64_bt]
      · rw [decide_eq_false ht, if_neg (fun h => ht h.2)]
        exact no
/-- Are samples those that are transparent? From place i on. -/
def gl (tr : ByteArray) (d : Int) : List Int → Nat → Bool
  | [], _ => true
  | x :: xs, i => if (256 * bt tr ((2 * i : Nat) : Int) + bt tr ((2 * i + 1 : Nat) : Int)) % pw d = x then gl tr d xs (i + 1) else false
def gls (tr : ByteArray) (has : Bool) (d : Int) (l : List Int) : Bool := if has = true ∧ tr.size = 2 * l.length then gl tr d l 0 else false
theorem gl_drop {tr : ByteArray} {d : Int} {l : List Int} {i : Nat} (h : i < l.length) : gl tr d (l.drop i) i = if (256 * bt tr ((2 * i : Nat) : Int) + bt tr ((2 * i + 1 : Nat) : Int)) % pw d = rd l (i : Int) then gl tr d (l.drop (i + 1)) (i + 1) else false := by
  have hr : rd l (i : Int) = l[i] := by
    unfold rd
    rw [List.getD_eq_getElem?_getD, Int.toNat_natCast, List.getElem?_eq_getElem h]
    rfl
  rw [List.drop_eq_getElem_cons h, hr]
  rfl
theorem g_w1 {i : Nat} (h : i ≤ 17592186044416) : wrap64 (2 * (i : Int)) = ((2 * i : Nat) : Int) := by rw [w64 (by omega) (by omega)]; omega
theorem g_e (x y : ByteArray) (i j : Int) {d : Int} (hk : kn d = true) : Go.bits .and .i64 (Go.bits .or .i64 (wrap64 ((wrap64 (bt x i)) * 256)) (wrap64 (bt y j))) (wrap64 ((shl .i64 1 d) - 1)) = (256 * bt x i + bt y j) % pw d := by
  obtain ⟨_, h2, h3, h4⟩ := tab hk
  have b1 := bt_range x i
  have b2 := bt_range y j
  rw [w64_bt, w64_bt, w64 (x := bt x i * 256) (by omega) (by omega), h3, w64 (x := pw d - 1) (by omega) (by omega), h4, or_join 8 (by omega) (by omega) (by omega) (by omega) (by omega) (by omega), Int.mul_comm]
theorem glassy_loop {l : List Int} {s0 s1 s2 s3 s4 : Int} {pal tr : ByteArray} {has : Bool} (hk : kn s2 = true) (hl : l.length ≤ 17592186044416) (ht : tr.size = 2 * l.length) : ∀ r i : Nat, i + r = l.length → Ev (fun k => samples_glassy.l0 k l (l.length : Int) (i : Int) s0 s1 s2 s3 s4 pal tr has) (gl tr s2 (l.drop i) i) := by
  have hd0 : 0 ≤ s2 := by have := (tab hk).1; omega
  intro r
  induction r with
  | zero =>
    intro i hi
    rw [List.drop_of_length_le (by omega)]
    refine Ev.step (f := fun _ => some true) (fun k => ?_) (Ev.now _)
    simp only [samples_glassy.l0]
    rw [if_neg (by omega)]
  | succ r ih =>
    intro i hi
    have hlt : (i : Int) < (l.length : Int) := by omega
    have h62 : i ≤ 4611686018427387904 := by omega
    have h1 : i ≤ 17592186044416 := by omega
    have h2 : 2 * i ≤ 4611686018427387904 := by omega
    have c1 : ((2 * i : Nat) : Int) < (tr.size : Int) := by omega
    have c2 : ((2 * i + 1 : Nat) : Int) < (tr.size : Int) := by omega
    rw [gl_drop (by omega)]
    by_cases h : (256 * bt tr ((2 * i : Nat) : Int) + bt tr ((2 * i + 1 : Nat) : Int)) % pw s2 = rd l (i : Int)
    · rw [if_pos h]
      refine Ev.step (fun k => ?_) (ih (i + 1) (by omega))
      simp only [samples_glassy.l0]
      rw [if_pos hlt, if_pos (Int.natCast_nonneg _), if_pos hlt, g_w1 h1, if_pos (Int.natCast_nonneg _), if_pos c1, w_succ h2, if_pos (Int.natCast_nonneg _), if_pos c2, if_pos hd0, g_e _ _ _ _ hk, if_pos h, w_succ h62]
    · rw [if_neg h]
      refine Ev.step (f := fun _ => some false) (fun k => ?_) (Ev.now _)
      simp only [samples_glassy.l0]
      rw [if_pos hlt, if_pos (Int.natCast_nonneg _), if_pos hlt, g_w1 h1, if_pos (Int.natCast_nonneg _), if_pos c1, w_succ h2, if_pos (Int.natCast_nonneg _), if_pos c2, if_pos hd0, g_e _ _ _ _ hk, if_neg h]
theorem glassy_ev {l : List Int} {s0 s1 s2 s3 s4 : Int} {pal tr : ByteArray} {has : Bool} (hk : kn s2 = true) (hl : l.length ≤ 17592186044416) : Ev (fun k => samples_glassy.f k s0 s1 s2 s3 s4 pal tr has l) (gls tr has s2 l) := by
  have w1 : wrap64 (2 * (l.length : Int)) = 2 * (l.length : Int) := w64 (by omega) (by omega)
  have no : Ev (fun k => samples_glassy.j0 k l true s0 s1 s2 s3 s4 pal tr has) false := Ev.step (f := fun _ => some false) (fun k => by simp only [samples_glassy.j0, if_true]) (Ev.now _)
  unfold samples_glassy.f gls
  rw [w1]
  cases has with
  | false => simpa using no
  | true =>
    simp only [if_true, true_and]
    by_cases h : tr.size = 2 * l.length
    · have e : ((tr.size : Int) != 2 * (l.length : Int)) = false := bne_eq_false_iff_eq.mpr (by omega)
      rw [if_pos h, e]
      refine Ev.step (fun k => ?_) (glassy_loop (s0 := s0) (s1 := s1) (s3 := s3) (s4 := s4) (pal := pal) (has := true) hk hl h l.length 0 (by omega))
      simp only [samples_glassy.j0, Bool.false_eq_true, if_false]
      rfl
    · have e : ((tr.size : Int) != 2 * (l.length : Int)) = true := bne_iff_ne.mpr (by omega)
      rw [if_neg h, e]
      exact no
/-- Is a sample none of its depth? -/
def bad (d : Int) (l : List Int) : Bool := l.any (pbad d)
theorem bad_loop (d : Int) (l : List Int) (hl : l.length ≤ 17592186044416) : ∀ r i : Nat, i + r = l.length → ∃ t : Int, Ev (fun k => pbadIdx k d l (i : Int)) t ∧ decide (t ≥ 0) = (l.drop i).any (pbad d) := by
  intro r
  induction r with
  | zero =>
    intro i hi
    refine ⟨-1, Ev.step (f := fun _ => some (-1)) (fun k => ?_) (Ev.now _), ?_⟩
    · simp only [pbadIdx]
      rw [if_neg (by omega)]
    · rw [List.drop_of_length_le (by omega)]
      rfl
  | succ r ih =>
    intro i hi
    have hlt : (i : Int) < (l.length : Int) := by omega
    have h62 : i ≤ 4611686018427387904 := by omega
    have hi2 : i < l.length := by omega
    have hr : rd l (i : Int) = l[i] := by
      unfold rd
      rw [List.getD_eq_getElem?_getD, Int.toNat_natCast, List.getElem?_eq_getElem hi2]
      rfl
    rw [List.drop_eq_getElem_cons hi2, List.any_cons]
    by_cases h : pbad d (l[i]) = true
    · refine ⟨(i : Int), Ev.step (f := fun _ => some (i : Int)) (fun k => ?_) (Ev.now _), ?_⟩
      · simp only [pbadIdx]
        rw [if_pos hlt, if_pos (Int.natCast_nonneg _), hr, if_pos h]
      · rw [h, Bool.true_or]
        exact decide_eq_true (Int.natCast_nonneg _)
    · obtain ⟨t, ht, hd⟩ := ih (i + 1) (by omega)
      refine ⟨t, Ev.step (fun k => ?_) ht, ?_⟩
      · simp only [pbadIdx]
        rw [if_pos hlt, if_pos (Int.natCast_nonneg _), hr, if_neg h, w_succ h62]
      · rw [hd, Bool.eq_false_iff.mpr h, Bool.false_or]
theorem bad_ev {l : List Int} {s0 s1 s2 s3 s4 : Int} {pal tr : ByteArray} {has : Bool} (hk : kn s2 = true) (hl : l.length ≤ 17592186044416) : Ev (fun k => slices_ContainsFunc_int_int.f k l s0 s1 s2 s3 s4 pal tr has) (bad s2 l) := by
  unfold slices_ContainsFunc_int_int.f
  obtain ⟨t, ht, hd⟩ := bad_loop s2 l hl l.length 0 (by omega)
  have hc := kn_cases hk
  simp only [hc, if_true]
  refine Ev.bind ht ?_
  rw [hd]
  exact Ev.now _

end Go.Proofs.Ytpccfanjdbenlaa.Pure
