/- Layer 15 (bands), plain: the bands of a raster and its manifest, by the program and by the document's answer: both are one plain function. Conditions: whole numbers of 64 bits. -/
import Derived.Test.YtbonmhgihedjpaaPL15x3
import Derived.Test.YtbonmhgihedjpaaPL15x4
import Derived.Test.YtbonmhgihedjpaaPL15x6
import Derived.Test.YtbonmhgihedjpaaPL15x7
import Derived.Test.YtbonmhgihedjpaaPL15x9
import Derived.Test.YtbonmhgihedjpaaPL15x10
import Derived.Test.YtbonmhgihedjpaaPL15x11
import Derived.Test.YtbonmhgihedjpaaPL15x15
import Derived.Test.YtbonmhgihedjpaaPL15x16
import Derived.Test.YtbonmhgihedjpaaPureRgt
import Derived.Test.YtbonmhgihedjpaaPureNum4
import Derived.Test.YtbonmhgihedjpaaPurePad
namespace Go.Proofs.Ytbonmhgihedjpaa.Pure
open Go.RowKit Go.Proofs.YtbonmhgihedjpaaW.PrintWords Go.Proofs.YtbonmhgihedjpaaW.PrintLast Go.Proofs.YtbonmhgihedjpaaW.PrintMore Go.Proofs.Ytbonmhgihedjpaa.PL15
set_option linter.unusedVariables false
set_option linter.unusedSimpArgs false
theorem big_f (n : Int) : bands_big.f n = some (be4 n) := rfl
/-- What is wrong with a raster: 0: nothing. -/
def chk (W H : Int) (s : ByteArray) : Int := if rgt W H 16 6 0 = 0 then (if (s.size : Int) = 8 * W * H then 0 else 24) else rgt W H 16 6 0
theorem chk_wrap {W H : Int} (h : rgt W H 16 6 0 = 0) : wrap64 (wrap64 (8 * W) * H) = 8 * W * H := by
  obtain ⟨a, b, c, d, e, _⟩ := rgt_0 h
  have h1 : 0 ≤ W * H := Int.mul_nonneg (by omega) (by omega)
  rw [w64 (x := 8 * W) (by omega) (by omega), Int.mul_assoc]
  exact w64 (by omega) (by omega)
theorem Check_ev (W H : Int) (s : ByteArray) : Ev (fun k => pixel_Check.f k W H s) (chk W H s) := by
  refine Ev.congr (f := fun k => (head_Right.f k W H 16 6 0).bind fun t => (if t = 0 then (if (s.size : Int) = (wrap64 ((wrap64 (8 * W)) * H)) then (some 0) else (some 24)) else (some t))) (fun k => rfl) ?_
  refine Ev.bind (f := fun _ t => (if t = 0 then (if (s.size : Int) = (wrap64 ((wrap64 (8 * W)) * H)) then (some 0) else (some 24)) else (some t))) (Right_ev W H 16 6 0 (by omega)) ?_
  refine ⟨0, fun k _ => ?_⟩
  unfold chk
  by_cases h : rgt W H 16 6 0 = 0
  · rw [if_pos h, if_pos h, chk_wrap h]
    split <;> rfl
  · rw [if_neg h, if_neg h]
theorem rCheck_ev (W H : Int) (s : ByteArray) : Ev (fun k => vitrineref12_Check.f k W H s) (chk W H s) := by
  refine Ev.bind (f := fun _ t => (if t = 0 then (if (s.size : Int) = (wrap64 ((wrap64 (8 * W)) * H)) then (some 0) else (some 24)) else (some t))) (rRight_ev W H 16 6 0) ?_
  refine ⟨0, fun k _ => ?_⟩
  unfold chk
  by_cases h : rgt W H 16 6 0 = 0
  · rw [if_pos h, if_pos h, chk_wrap h]
    split <;> rfl
  · rw [if_neg h, if_neg h]
theorem chk_0 {W H : Int} {s : ByteArray} (h : chk W H s = 0) : ∃ w h_ : Nat, W = (w : Int) ∧ H = (h_ : Int) ∧ 1 ≤ w ∧ w ≤ 1024 ∧ 1 ≤ h_ ∧ h_ ≤ 1024 ∧ w * h_ ≤ 4096 ∧ s.size = 8 * w * h_ := by
  unfold chk at h
  by_cases hr : rgt W H 16 6 0 = 0
  · rw [if_pos hr] at h
    by_cases hs : (s.size : Int) = 8 * W * H
    · obtain ⟨a, b, c, d, e, _⟩ := rgt_0 hr
      refine ⟨W.toNat, H.toNat, by omega, by omega, by omega, by omega, by omega, by omega, ?_, ?_⟩
      · have : ((W.toNat * H.toNat : Nat) : Int) = W * H := by rw [Int.natCast_mul, Int.toNat_of_nonneg (by omega), Int.toNat_of_nonneg (by omega)]
        omega
      · have : ((8 * W.toNat * H.toNat : Nat) : Int) = 8 * W * H := by rw [Int.natCast_mul, Int.natCast_mul, Int.toNat_of_nonneg (by omega), Int.toNat_of_nonneg (by omega)]; rfl
        omega
    · rw [if_neg hs] at h
      omega
  · rw [if_neg hr] at h
    exact absurd h hr
/-! ### Bands -/
/-- A band's last row, of h. -/
def be_ (h i : Nat) : Nat := min (8 * (i + 1)) h
/-- The band of place i, of rows of R bytes. -/
def piece (R h : Nat) (s : ByteArray) (i : Nat) : ByteArray := s.extract (R * (8 * i)) (R * be_ h i)
def pieces (R h : Nat) (s : ByteArray) (n : Nat) : List ByteArray := (List.range n).map (piece R h s)
theorem pieces_succ (R h : Nat) (s : ByteArray) (n : Nat) : pieces R h s (n + 1) = pieces R h s n ++ [piece R h s n] := by
  unfold pieces
  rw [List.range_succ, List.map_append]
  rfl
theorem pieces_len (R h : Nat) (s : ByteArray) (n : Nat) : (pieces R h s n).length = n := by unfold pieces; simp
def mb (h : Nat) : Nat := (h + 7) / 8
theorem mb_le {h : Nat} (h4 : h ≤ 1024) : mb h ≤ 8796093022208 := by unfold mb; omega
/-- What lies behind the first i bands. -/
def behind (R : Nat) (s : ByteArray) (i : Nat) : ByteArray := s.extract (R * (8 * i)) s.size
theorem behind_size {R h : Nat} {s : ByteArray} (hs : s.size = R * h) {i : Nat} (hi : 8 * i ≤ h) : (behind R s i).size = R * (h - 8 * i) := by
  unfold behind
  rw [ByteArray.size_extract, hs, Nat.min_self, Nat.mul_sub]
theorem behind_more {R h : Nat} {s : ByteArray} (hs : s.size = R * h) (hR : 1 ≤ R) {i : Nat} : ((behind R s i).size = 0) ↔ ¬ i < mb h := by
  unfold behind mb
  rw [ByteArray.size_extract, hs, Nat.min_self, ← Nat.mul_sub, Nat.mul_eq_zero]
  omega
theorem cut_step {R h : Nat} {s : ByteArray} (hs : s.size = R * h) {i n : Nat} (hi : i < mb h) (hn : n = R * (be_ h i - 8 * i)) : (behind R s i).extract 0 n = piece R h s i ∧ (behind R s i).extract n (behind R s i).size = behind R s (i + 1) := by
  have h8 : 8 * i < h := by unfold mb at hi; omega
  have hb := behind_size hs (i := i) (by omega)
  have hm := Nat.mul_le_mul_left R (show 8 * i ≤ h by omega)
  subst hn
  rw [Nat.mul_sub]
  have hle : R * (8 * i) ≤ R * be_ h i := Nat.mul_le_mul_left R (by unfold be_; omega)
  have hle2 : R * be_ h i ≤ R * h := Nat.mul_le_mul_left R (by unfold be_; omega)
  unfold behind piece
  rw [ByteArray.extract_extract, ByteArray.extract_extract]
  constructor
  · congr 1
    · omega
  · have hz : (s.extract (R * (8 * i)) s.size).size = R * h - R * (8 * i) := by rw [ByteArray.size_extract, hs, Nat.min_self]
    rw [hz]
    by_cases hc : 8 * (i + 1) ≤ h
    · have : be_ h i = 8 * (i + 1) := by unfold be_; omega
      rw [this] at hle hle2 ⊢
      congr 1 <;> omega
    · have e : be_ h i = h := by unfold be_; omega
      have hbig := Nat.mul_le_mul_left R (show h ≤ 8 * (i + 1) by omega)
      rw [e]
      have z1 : (s.extract (R * (8 * i) + (R * h - R * (8 * i))) (min (R * (8 * i) + (R * h - R * (8 * i))) s.size)).size = 0 := by rw [ByteArray.size_extract]; omega
      have z2 : (s.extract (R * (8 * (i + 1))) s.size).size = 0 := by rw [ByteArray.size_extract]; omega
      rw [ByteArray.size_eq_zero_iff.1 z1, ByteArray.size_eq_zero_iff.1 z2]
theorem Cut_loop {R h : Nat} {s : ByteArray} (hs : s.size = R * h) (hR : 1 ≤ R) (hRb : R ≤ 8192) (hh : h ≤ 1024) : ∀ d i : Nat, i + d = mb h → Ev (fun k => bands_Cut.l0 k (pieces R h s i) ((8 * R : Nat) : Int) (behind R s i)) (pieces R h s (mb h), 0) := by
  intro d
  induction d with
  | zero =>
    intro i hi
    obtain rfl : i = mb h := by omega
    refine Ev.step (f := fun _ => some (pieces R h s (mb h), 0)) (fun k => ?_) (Ev.now _)
    simp only [bands_Cut.l0]
    rw [if_pos ((toList_nil _).2 ((behind_more hs hR).2 (by omega)))]
  | succ d ih =>
    intro i hi
    have hlt : i < mb h := by omega
    have h8 : 8 * i < h := by unfold mb at hlt; omega
    have hb := behind_size hs (i := i) (by omega)
    have hn : mn ((8 * R : Nat) : Int) ((behind R s i).size : Int) = ((R * (be_ h i - 8 * i) : Nat) : Int) := by
      rw [hb]
      by_cases hc : 8 ≤ h - 8 * i
      · have := Nat.mul_le_mul_left R hc
        rw [show be_ h i - 8 * i = 8 by unfold be_; omega]
        unfold mn
        split <;> omega
      · have := Nat.mul_le_mul_left R (show h - 8 * i ≤ 8 by omega)
        rw [show be_ h i - 8 * i = h - 8 * i by unfold be_; omega]
        unfold mn
        split <;> omega
    have hle : R * (be_ h i - 8 * i) ≤ (behind R s i).size := by rw [hb]; exact Nat.mul_le_mul_left R (by unfold be_; omega)
    obtain ⟨c1, c2⟩ := cut_step hs hlt rfl
    have hne : ¬ (behind R s i).toList = [] := fun e => ((behind_more hs hR).1 ((toList_nil _).1 e)) hlt
    refine Ev.step (fun k => ?_) (ih (i + 1) (by omega))
    simp only [bands_Cut.l0]
    rw [if_neg hne, hn, if_pos (Int.natCast_nonneg _), if_pos (Int.ofNat_le.2 hle), if_pos (by rw [pieces_len]; exact Nat.lt_of_lt_of_le hlt (mb_le hh)), Int.toNat_natCast, c1, c2, ← pieces_succ]
/-- The bands of a raster: by the program and by the document's answer. -/
def cutV (W H : Int) (s : ByteArray) : List ByteArray × Int := if chk W H s = 0 then (pieces (8 * W.toNat) H.toNat s (mb H.toNat), 0) else ([], chk W H s)
theorem mul8 (w h : Nat) : 8 * w * h = (8 * w) * h := rfl
theorem Cut_ev (W H : Int) (s : ByteArray) : Ev (fun k => bands_Cut.f k W H s) (cutV W H s) := by
  refine Ev.bind (f := fun k t130 => (if t130 = 0 then ((bands_band.f W).bind fun t131 => (bands_Cut.l0 k ([] : List ByteArray) t131 s)) else (some (([] : List ByteArray), t130)))) (Check_ev W H s) ?_
  unfold cutV
  by_cases hc : chk W H s = 0
  · obtain ⟨w, h, rfl, rfl, h1, h2, h3, h4, h5, h6⟩ := chk_0 hc
    have hb : bands_band.f (w : Int) = some ((8 * (8 * w) : Nat) : Int) := by
      unfold bands_band.f
      rw [w64 (x := 8 * (w : Int)) (by omega) (by omega), w64 (by omega) (by omega)]
      congr 1
      omega
    simp only [if_pos hc, hb, Option.bind_some, Int.toNat_natCast]
    have := Cut_loop (R := 8 * w) (h := h) h6 (by omega) (by omega) (by omega) (mb h) 0 (by omega)
    have e : behind (8 * w) s 0 = s := by unfold behind; rw [Nat.mul_zero]; exact ByteArray.extract_zero_size
    rw [e] at this
    exact this
  · simp only [if_neg hc]
    exact Ev.now _
theorem rCut_loop {w h : Nat} {s : ByteArray} (hs : s.size = 8 * w * h) (h1 : 1 ≤ w) (h2 : w ≤ 1024) (h3 : 1 ≤ h) (h4 : h ≤ 1024) : ∀ d i : Nat, i + d = mb h → Ev (fun k => vitrineref15_Cut.l0 k (pieces (8 * w) h s i) (behind (8 * w) s i) (i : Int) (w : Int) (h : Int) s) (pieces (8 * w) h s (mb h), 0) := by
  have hM : vitrineref15_Many.f (h : Int) = some ((mb h : Nat) : Int) := by
    unfold vitrineref15_Many.f mb
    rw [w64 (x := (h : Int) + 8) (by omega) (by omega), w64 (x := (h : Int) + 8 - 1) (by omega) (by omega), Int.tdiv_eq_ediv_of_nonneg (by omega), w64 (by omega) (by omega)]
    congr 1
    omega
  intro d
  induction d with
  | zero =>
    intro i hi
    obtain rfl : i = mb h := by omega
    refine Ev.step (f := fun _ => some (pieces (8 * w) h s (mb h), 0)) (fun k => ?_) (Ev.now _)
    simp only [vitrineref15_Cut.l0, hM, Option.bind_some]
    rw [if_neg (by omega)]
  | succ d ih =>
    intro i hi
    have hlt : i < mb h := by omega
    have h8 : 8 * i < h := by unfold mb at hlt; omega
    have hb := behind_size (R := 8 * w) (h := h) hs (i := i) (by omega)
    have hsz : vitrineref15_size.f (w : Int) (h : Int) (i : Int) = some ((8 * w * (be_ h i - 8 * i) : Nat) : Int) := by
      unfold vitrineref15_size.f
      have e1 : mn 8 (wrap64 ((h : Int) - wrap64 ((i : Int) * 8))) = ((be_ h i - 8 * i : Nat) : Int) := by
        rw [w64 (x := (i : Int) * 8) (by omega) (by omega), w64 (by omega) (by omega)]
        unfold mn be_
        split <;> omega
      rw [e1, w64 (x := 8 * (w : Int)) (by omega) (by omega), show 8 * (w : Int) * ((be_ h i - 8 * i : Nat) : Int) = ((8 * w * (be_ h i - 8 * i) : Nat) : Int) by rw [Int.natCast_mul, Int.natCast_mul]; rfl]
      have hx : 8 * w * (be_ h i - 8 * i) ≤ 8192 * 8 := Nat.mul_le_mul (by omega) (by unfold be_; omega)
      rw [w64 (by omega) (by omega)]
    have hle : 8 * w * (be_ h i - 8 * i) ≤ (behind (8 * w) s i).size := by rw [hb]; exact Nat.mul_le_mul_left (8 * w) (by unfold be_; omega)
    obtain ⟨c1, c2⟩ := cut_step (R := 8 * w) (h := h) hs hlt rfl
    have hmb := mb_le h4
    have hi1 : i ≤ 4611686018427387904 := Nat.le_trans (Nat.le_of_lt hlt) (Nat.le_trans hmb (by decide))
    have w1 : wrap64 ((i : Int) + 1) = ((i + 1 : Nat) : Int) := w_succ hi1
    refine Ev.step (fun k => ?_) (ih (i + 1) (by omega))
    simp only [vitrineref15_Cut.l0, hM, Option.bind_some]
    rw [if_pos (Int.ofNat_lt.2 hlt), hsz, Option.bind_some, if_pos (Int.natCast_nonneg _), if_pos (Int.ofNat_le.2 hle), if_pos (by rw [pieces_len]; exact Nat.lt_of_lt_of_le hlt hmb), Int.toNat_natCast, c1, c2, ← pieces_succ, w1]
theorem rCut_ev (W H : Int) (s : ByteArray) : Ev (fun k => vitrineref15_Cut.f k W H s) (cutV W H s) := by
  refine Ev.bind (f := fun k t139 => (if t139 = 0 then (vitrineref15_Cut.l0 k ([] : List ByteArray) s 0 W H s) else (some (([] : List ByteArray), t139)))) (rCheck_ev W H s) ?_
  unfold cutV
  by_cases hc : chk W H s = 0
  · obtain ⟨w, h, rfl, rfl, h1, h2, h3, h4, h5, h6⟩ := chk_0 hc
    simp only [if_pos hc, Int.toNat_natCast]
    have := rCut_loop (w := w) (h := h) h6 h1 h2 h3 h4 (mb h) 0 (by omega)
    have e : behind (8 * w) s 0 = s := by unfold behind; rw [Nat.mul_zero]; exact ByteArray.extract_zero_size
    rw [e] at this
    exact this
  · simp only [if_neg hc]
    exact Ev.now _
theorem piece_size {R h : Nat} {s : ByteArray} (hs : s.size = R * h) (i : Nat) (hi : i < mb h) : (piece R h s i).size = R * (be_ h i - 8 * i) := by
  have h8 : 8 * i < h := by unfold mb at hi; omega
  have hle2 : R * be_ h i ≤ R * h := Nat.mul_le_mul_left R (by unfold be_; omega)
  unfold piece
  rw [ByteArray.size_extract, hs, Nat.mul_sub]
  omega
theorem piece_le {R h : Nat} {s : ByteArray} (hs : s.size = R * h) (hR : R ≤ 8192) (i : Nat) (hi : i < mb h) : (piece R h s i).size ≤ 65536 := by
  rw [piece_size hs i hi]
  have := Nat.mul_le_mul hR (show be_ h i - 8 * i ≤ 8 by unfold be_; omega)
  omega
theorem rdOf_map (f : Nat → ByteArray) (n i : Nat) (h : i < n) : rdOf ByteArray.empty ((List.range n).map f) (i : Int) = f i := by
  unfold rdOf
  rw [List.getD_eq_getElem?_getD, Int.toNat_natCast, List.getElem?_map, List.getElem?_range h]
  rfl
/-! ### Manifests -/
def cat (f : Nat → ByteArray) : Nat → ByteArray
  | 0 => ByteArray.empty
  | n + 1 => cat f n ++ f n
theorem cat_size {f : Nat → ByteArray} (hf : ∀ i, (f i).size = 32) : ∀ n, (cat f n).size = 32 * n
  | 0 => rfl
  | n + 1 => by rw [cat, ByteArray.size_append, cat_size hf n, hf n]; omega
def manL (W H : Int) (R h : Nat) (s : ByteArray) (n : Nat) : ByteArray := be4 W ++ be4 H ++ cat (fun i => shaS (piece R h s i)) n
theorem manL_size (W H : Int) (R h : Nat) (s : ByteArray) (n : Nat) : (manL W H R h s n).size = 8 + 32 * n := by
  unfold manL
  rw [ByteArray.size_append, ByteArray.size_append, be4_size, be4_size, cat_size (fun i => shaS_size _)]
theorem manL_succ (W H : Int) (R h : Nat) (s : ByteArray) (n : Nat) : manL W H R h s (n + 1) = manL W H R h s n ++ shaS (piece R h s n) := by
  unfold manL
  rw [cat, ← ByteArray.append_assoc]
def manV (W H : Int) (s : ByteArray) : ByteArray × Int := if chk W H s = 0 then (manL W H (8 * W.toNat) H.toNat s (mb H.toNat), 0) else (⟨#[]⟩, chk W H s)
theorem Man_loop {R h : Nat} {s : ByteArray} (W H : Int) (hs : s.size = R * h) (hR : R ≤ 8192) (hh : h ≤ 1024) : ∀ d i : Nat, i + d = mb h → Ev (fun k => bands_Manifest.l0 k (pieces R h s (mb h)) ((mb h : Nat) : Int) (i : Int) (manL W H R h s i)) (manL W H R h s (mb h), 0) := by
  intro d
  induction d with
  | zero =>
    intro i hi
    obtain rfl : i = mb h := by omega
    refine Ev.step (f := fun _ => some (manL W H R h s (mb h), 0)) (fun k => ?_) (Ev.now _)
    simp only [bands_Manifest.l0]
    rw [if_neg (by omega)]
    rfl
  | succ d ih =>
    intro i hi
    have hlt : i < mb h := by omega
    have hmb : mb h ≤ 1031 := by unfold mb; omega
    have w1 : wrap64 ((i : Int) + 1) = ((i + 1 : Nat) : Int) := by rw [w64 (by omega) (by omega)]; omega
    have hrd : rdOf ByteArray.empty (pieces R h s (mb h)) (i : Int) = piece R h s i := rdOf_map _ _ _ hlt
    have hm := manL_size W H R h s i
    have hsh := shaS_size (piece R h s i)
    refine Ev.step (f := fun k => (sha_Sum.f k (piece R h s i)).bind fun t162 => ((strings_Builder_WriteString.f (manL W H R h s i) t162).bind fun bt163 => (bands_Manifest.l0 k (pieces R h s (mb h)) ((mb h : Nat) : Int) (wrap64 ((i : Int) + 1)) bt163.2.2))) (fun k => ?_) ?_
    · simp only [bands_Manifest.l0]
      rw [if_pos (by omega), if_pos (by omega), if_pos (by rw [pieces_len]; omega), hrd]
    · refine Ev.bind (f := fun k t162 => ((strings_Builder_WriteString.f (manL W H R h s i) t162).bind fun bt163 => (bands_Manifest.l0 k (pieces R h s (mb h)) ((mb h : Nat) : Int) (wrap64 ((i : Int) + 1)) bt163.2.2))) (sum_ev _ (by have := piece_le hs hR i hlt; omega)) ?_
      have hw : strings_Builder_WriteString.f (manL W H R h s i) (shaS (piece R h s i)) = some (((shaS (piece R h s i)).size : Int), none, manL W H R h s (i + 1)) := by
        unfold strings_Builder_WriteString.f
        rw [if_pos (by omega), manL_succ]
      refine Ev.congr (fun k => ?_) (ih (i + 1) (by omega))
      rw [hw, Option.bind_some, w1]
theorem Man_ev (W H : Int) (s : ByteArray) : Ev (fun k => bands_Manifest.f k W H s) (manV W H s) := by
  refine Ev.bind (f := fun k bt149 => (if bt149.2 = 0 then ((bands_big.f W).bind fun t154 => ((bands_big.f H).bind fun t155 => (if t154.size + t155.size ≤ 9223372036854775807 then ((strings_Builder_WriteString.f (⟨#[]⟩ : ByteArray) (t154 ++ t155)).bind fun bt156 => (bands_Manifest.l0 k bt149.1 (bt149.1.length : Int) 0 bt156.2.2)) else (none)))) else (some ((⟨#[]⟩ : ByteArray), bt149.2)))) (Cut_ev W H s) ?_
  unfold manV cutV
  by_cases hc : chk W H s = 0
  · have hc' := hc
    obtain ⟨w, h, rfl, rfl, h1, h2, h3, h4, h5, h6⟩ := chk_0 hc
    simp only [if_pos hc', big_f, Option.bind_some, Int.toNat_natCast, if_true]
    have hw : strings_Builder_WriteString.f (⟨#[]⟩ : ByteArray) (be4 (w : Int) ++ be4 (h : Int)) = some (((be4 (w : Int) ++ be4 (h : Int)).size : Int), none, manL w h (8 * w) h s 0) := by
      unfold strings_Builder_WriteString.f
      have e : (⟨#[]⟩ : ByteArray) ++ (be4 (w : Int) ++ be4 (h : Int)) = manL w h (8 * w) h s 0 := by
        unfold manL cat
        rw [ByteArray.append_empty]
        exact ByteArray.empty_append
      have z : (⟨#[]⟩ : ByteArray).size = 0 := rfl
      rw [if_pos (by rw [ByteArray.size_append, be4_size, be4_size, z]; omega), e]
    refine Ev.congr (fun k => ?_) (Man_loop (R := 8 * w) (h := h) w h h6 (by omega) h4 (mb h) 0 (by omega))
    rw [if_pos (by rw [be4_size, be4_size]; omega), hw, Option.bind_some, pieces_len]
    rfl
  · simp only [if_neg hc]
    exact Ev.now _
/-! ### Lists of texts -/
theorem texts_loop (l : List ByteArray) (hl : l.length ≤ 4611686018427387904) : ∀ d i : Nat, i + d = l.length → Ev (fun k => vitrinelaw15_texts.l0 k l l (i : Int)) true := by
  intro d
  induction d with
  | zero =>
    intro i hi
    refine Ev.step (f := fun _ => some true) (fun k => ?_) (Ev.now _)
    simp only [vitrinelaw15_texts.l0]
    rw [if_neg (by omega)]
  | succ d ih =>
    intro i hi
    have w1 : wrap64 ((i : Int) + 1) = ((i + 1 : Nat) : Int) := by rw [w64 (by omega) (by omega)]; omega
    refine Ev.step (fun k => ?_) (ih (i + 1) (by omega))
    simp only [vitrinelaw15_texts.l0]
    rw [if_pos (by omega), if_pos (by omega), if_pos (by omega), w1]
    simp only [if_true]
theorem texts_ev (l : List ByteArray) (hl : l.length ≤ 4611686018427387904) : Ev (fun k => vitrinelaw15_texts.f k l l) true := by
  refine Ev.congr (f := fun k => vitrinelaw15_texts.l0 k l l 0) (fun k => ?_) (texts_loop l hl l.length 0 (by omega))
  unfold vitrinelaw15_texts.f
  rw [if_pos rfl]
theorem cutV_len (W H : Int) (s : ByteArray) : (cutV W H s).1.length ≤ 4611686018427387904 := by
  unfold cutV
  by_cases hc : chk W H s = 0
  · have hc' := hc
    obtain ⟨w, h, rfl, rfl, h1, h2, h3, h4, h5, h6⟩ := chk_0 hc
    rw [if_pos hc', pieces_len]
    unfold mb
    omega
  · rw [if_neg hc]
    simp
theorem awake15 : Ev (fun k => vitrinelaw15_awake.f k) true := ev_true (fun k => vitrinelaw15_awake.mono k) 200 (by kernel_rfl)

end Go.Proofs.Ytbonmhgihedjpaa.Pure
