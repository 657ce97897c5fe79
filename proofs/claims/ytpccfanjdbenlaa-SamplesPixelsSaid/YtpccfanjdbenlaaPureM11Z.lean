/- Layer 11 (samples), plain laws, seventh part: the pixel of samples by the document's answer. Conditions: a palette and a transparency of at most 2^47 - 4096 bytes, a list as long as a slice can be. -/
import Derived.Test.YtpccfanjdbenlaaPM11x7
import Derived.Test.YtpccfanjdbenlaaPM11x17
import Derived.Test.YtpccfanjdbenlaaPM11x18
import Derived.Test.YtpccfanjdbenlaaPM11x19
import Derived.Test.YtpccfanjdbenlaaPureM11Y
namespace Go.Proofs.Ytpccfanjdbenlaa.Pure
open Go.RowKit Go.Proofs.YtpccfanjdbenlaaW.PrintWords Go.Proofs.YtpccfanjdbenlaaW.PrintLast Go.Proofs.YtpccfanjdbenlaaW.PrintMore Go.Proofs.Ytpccfanjdbenlaa.PM11
set_option linter.unusedVariables false
set_option linter.unusedSimpArgs false
def W2 (n : Int) : ByteArray := strOfNums [n / 256 % 256, n % 256]
theorem two_f {n : Int} (h : 0 ≤ n ∧ n ≤ 65535) : vitrineref11_two.f n = some (W2 n) := by
  unfold vitrineref11_two.f W2
  rw [Int.tdiv_eq_ediv_of_nonneg h.1, w64 (by omega) (by omega)]
theorem strOf_app (xs ys : List Int) : strOfNums xs ++ strOfNums ys = strOfNums (xs ++ ys) := by
  apply ByteArray.ext
  simp [strOfNums, ByteArray.data_append]
theorem W2_px (a b c d : Int) : ((W2 a ++ W2 b) ++ W2 c) ++ W2 d = px a b c d := by
  unfold W2 px
  rw [strOf_app, strOf_app, strOf_app]
  rfl
theorem W2_size (n : Int) : (W2 n).size = 2 := by unfold W2; rw [strOfNums_size]; rfl
theorem W2_size2 (a b : Int) : (W2 a ++ W2 b).size = 4 := by rw [ByteArray.size_append, W2_size, W2_size]
theorem W2_size3 (a b c : Int) : ((W2 a ++ W2 b) ++ W2 c).size = 6 := by rw [ByteArray.size_append, W2_size2, W2_size]
theorem s_e (x y : ByteArray) (i j : Int) {d : Int} (hk : kn d = true) : Int.tmod (wrap64 ((wrap64 (256 * (wrap64 (bt x i)))) + (wrap64 (bt y j)))) (shl .i64 1 d) = (256 * bt x i + bt y j) % pw d := by
  obtain ⟨_, h2, h3, h4⟩ := tab hk
  have b1 := bt_range x i
  have b2 := bt_range y j
  rw [w64_bt, w64_bt, w64 (x := 256 * bt x i) (by omega) (by omega), w64 (by omega) (by omega), h3, Int.tmod_eq_emod_of_nonneg (by omega)]
theorem same_loop {l : List Int} {s0 s1 s2 s3 s4 : Int} {pal tr : ByteArray} {has : Bool} (hk : kn s2 = true) (hl : l.length ≤ 17592186044416) (ht : tr.size = 2 * l.length) : ∀ r i : Nat, i + r = l.length → Ev (fun k => vitrineref11_same.l0 k l (i : Int) s0 s1 s2 s3 s4 pal tr has) (gl tr s2 (l.drop i) i) := by
  obtain ⟨hd, hp, hsh, _⟩ := tab hk
  have hd0 : 0 ≤ s2 := by omega
  have hne : ¬ shl .i64 1 s2 = 0 := by rw [hsh]; omega
  clear hd hp hsh
  intro r
  induction r with
  | zero =>
    intro i hi
    rw [List.drop_of_length_le (by omega)]
    refine Ev.step (f := fun _ => some true) (fun k => ?_) (Ev.now _)
    simp only [vitrineref11_same.l0]
    rw [if_neg (by omega)]
  | succ r ih =>
    intro i hi
    have hlt : (i : Int) < (l.length : Int) := by omega
    have h62 : i ≤ 4611686018427387904 := by omega
    have h1 : i ≤ 17592186044416 := by omega
    have h2 : 2 * i ≤ 4611686018427387904 := by omega
    have c1 : ((2 * i : Nat) : Int) < (tr.size : Int) := by omega
    have c2 : ((2 * i + 1 : Nat) : Int) < (tr.size : Int) := by omega
    rw [gl_drop (by omega)]
    by_cases h : (256 * bt tr ((2 * i : Nat) : Int) + bt tr ((2 * i + 1 : Nat) : Int)) % pw s2 = rd l (i : Int)
    · rw [if_pos h]
      refine Ev.step (fun k => ?_) (ih (i + 1) (by omega))
      simp only [vitrineref11_same.l0]
      rw [if_pos hlt, g_w1 h1, if_pos (Int.natCast_nonneg _), if_pos c1, w_succ h2, if_pos (Int.natCast_nonneg _), if_pos c2, if_pos hd0, if_neg hne, if_pos (Int.natCast_nonneg _), s_e _ _ _ _ hk, if_pos h, w_succ h62]
    · rw [if_neg h]
      refine Ev.step (f := fun _ => some false) (fun k => ?_) (Ev.now _)
      simp only [vitrineref11_same.l0]
      rw [if_pos hlt, g_w1 h1, if_pos (Int.natCast_nonneg _), if_pos c1, w_succ h2, if_pos (Int.natCast_nonneg _), if_pos c2, if_pos hd0, if_neg hne, if_pos (Int.natCast_nonneg _), s_e _ _ _ _ hk, if_neg h]
theorem same_ev {l : List Int} {s0 s1 s2 s3 s4 : Int} {pal tr : ByteArray} {has : Bool} (hk : kn s2 = true) (hl : l.length ≤ 17592186044416) : Ev (fun k => vitrineref11_same.f k s0 s1 s2 s3 s4 pal tr has l) (gls tr has s2 l) := by
  have w1 : wrap64 (2 * (l.length : Int)) = 2 * (l.length : Int) := w64 (by omega) (by omega)
  have no : Ev (fun k => vitrineref11_same.j0 k l true s0 s1 s2 s3 s4 pal tr has) false := Ev.step (f := fun _ => some false) (fun k => by simp only [vitrineref11_same.j0, if_true]) (Ev.now _)
  unfold vitrineref11_same.f gls
  rw [w1]
  cases has with
  | false => simpa using no
  | true =>
    simp only [if_true, true_and]
    by_cases h : tr.size = 2 * l.length
    · have e : ((tr.size : Int) != 2 * (l.length : Int)) = false := bne_eq_false_iff_eq.mpr (by omega)
      rw [if_pos h, e]
      refine Ev.step (fun k => ?_) (same_loop (s0 := s0) (s1 := s1) (s3 := s3) (s4 := s4) (pal := pal) (has := true) hk hl h l.length 0 (by omega))
      simp only [vitrineref11_same.j0, Bool.false_eq_true, if_false]
      rfl
    · have e : ((tr.size : Int) != 2 * (l.length : Int)) = true := bne_iff_ne.mpr (by omega)
      rw [if_neg h, e]
      exact no
def os (l : List Int) (d : Int) (i : Nat) : List ByteArray := (List.range i).map fun j : Nat => W2 (ww l d (j : Int))
theorem os_succ (l : List Int) (d : Int) (i : Nat) : os l d i ++ [W2 (wid (rd l (i : Int)) d)] = os l d (i + 1) := by
  unfold os
  rw [List.range_succ, List.map_append]
  rfl
theorem rP_loop11 {l : List Int} {s0 s1 s2 s3 s4 : Int} {pal tr : ByteArray} {has : Bool} {R : ByteArray × Int} (hl : l.length < 8796093022208) (hk : kn s2 = true) (hend : bad s2 l = false → Ev (fun k => vitrineref11_Pixel.l0 k l (os l s2 l.length) (l.length : Int) s0 s1 s2 s3 s4 pal tr has) R) :
    ∀ r i : Nat, i + r = l.length → ((l.take i).any (pbad s2) = false) → Ev (fun k => vitrineref11_Pixel.l0 k l (os l s2 i) (i : Int) s0 s1 s2 s3 s4 pal tr has) (if bad s2 l = false then R else (⟨#[]⟩, 1)) := by
  obtain ⟨hd, hp, hsh, _⟩ := tab hk
  have hd0 : 0 ≤ s2 := by omega
  have epw : pw s2 = 2 ^ s2.toNat := rfl
  clear hd hp
  intro r
  induction r with
  | zero =>
    intro i hi ht
    rw [List.take_of_length_le (by omega)] at ht
    have hb : bad s2 l = false := ht
    rw [if_pos hb, show i = l.length by omega]
    exact hend hb
  | succ r ih =>
    intro i hi ht
    have hlt : (i : Int) < (l.length : Int) := by omega
    have h62 : i ≤ 4611686018427387904 := by omega
    have hi2 : i < l.length := by omega
    have hr : rd l (i : Int) = l[i] := by
      unfold rd
      rw [List.getD_eq_getElem?_getD, Int.toNat_natCast, List.getElem?_eq_getElem hi2]
      rfl
    have ht1 : (l.take (i + 1)).any (pbad s2) = pbad s2 (rd l (i : Int)) := by
      rw [List.take_succ_eq_append_getElem hi2, List.any_append, ht, Bool.false_or, hr]
      simp
    have hlen : (os l s2 i).length < 8796093022208 := by unfold os; rw [List.length_map, List.length_range]; omega
    have hbadstep : pbad s2 (rd l (i : Int)) = true → Ev (fun k => vitrineref11_Pixel.j2 k l (os l s2 i) (i : Int) true s0 s1 s2 s3 s4 pal tr has) (if bad s2 l = false then R else (⟨#[]⟩, 1)) := fun hb => by
      have hb2 : ¬ bad s2 l = false := by
        unfold bad
        rw [← List.take_append_drop (i + 1) l, List.any_append, ht1, hb, Bool.true_or]
        decide
      rw [if_neg hb2]
      exact Ev.step (f := fun _ => some (⟨#[]⟩, 1)) (fun k => by simp only [vitrineref11_Pixel.j2, if_true]) (Ev.now _)
    by_cases h0 : rd l (i : Int) < 0
    · refine Ev.step (fun k => ?_) (hbadstep (by unfold pbad; rw [decide_eq_true h0, Bool.true_or]))
      simp only [vitrineref11_Pixel.l0]
      rw [if_pos hlt, if_pos (Int.natCast_nonneg _), if_pos h0]
    · refine Ev.step (f := fun k => vitrineref11_Pixel.j2 k l (os l s2 i) (i : Int) (decide (rd l (i : Int) ≥ pw s2)) s0 s1 s2 s3 s4 pal tr has) (fun k => ?_) ?_
      · simp only [vitrineref11_Pixel.l0]
        rw [if_pos hlt, if_pos (Int.natCast_nonneg _), if_neg h0, if_pos hd0, hsh]
      · by_cases h1 : rd l (i : Int) ≥ pw s2
        · rw [decide_eq_true h1]
          exact hbadstep (by unfold pbad; rw [decide_eq_true (show rd l (i : Int) ≥ 2 ^ s2.toNat from h1), Bool.or_true])
        · rw [decide_eq_false h1]
          have hgood : pbad s2 (rd l (i : Int)) = false := by unfold pbad; rw [decide_eq_false h0, decide_eq_false (show ¬ rd l (i : Int) ≥ 2 ^ s2.toNat from h1)]; rfl
          refine Ev.step (fun k => ?_) (ih (i + 1) (by omega) (by rw [ht1, hgood]))
          simp only [vitrineref11_Pixel.j2, Bool.false_eq_true, if_false]
          rw [if_pos (Int.natCast_nonneg _), if_pos hlt, rWide_f]
          simp only [Option.bind_some]
          rw [two_f (wid_range _ _)]
          simp only [Option.bind_some]
          rw [if_pos hlen, os_succ, w_succ h62]
theorem rd4 (x y z u : ByteArray) : rdOf ByteArray.empty [x, y, z, u] 0 = x ∧ rdOf ByteArray.empty [x, y, z, u] 1 = y ∧ rdOf ByteArray.empty [x, y, z, u] 2 = z ∧ rdOf ByteArray.empty [x, y, z, u] 3 = u := ⟨rfl, rfl, rfl, rfl⟩
theorem rd3 (x y z : ByteArray) : rdOf ByteArray.empty [x, y, z] 0 = x ∧ rdOf ByteArray.empty [x, y, z] 1 = y ∧ rdOf ByteArray.empty [x, y, z] 2 = z := ⟨rfl, rfl, rfl⟩
theorem rd2 (x y : ByteArray) : rdOf ByteArray.empty [x, y] 0 = x ∧ rdOf ByteArray.empty [x, y] 1 = y := ⟨rfl, rfl⟩
theorem rd1 (x : ByteArray) : rdOf ByteArray.empty [x] 0 = x := rfl
theorem lim {a b : Nat} (h : a + b ≤ 100) : a + b ≤ 9223372036854775807 := by omega
theorem pal_go {a al s0 s1 s2 s3 s4 : Int} {pal tr : ByteArray} {has : Bool} (ha : 0 ≤ a) (h : 3 * a + 3 ≤ (pal.size : Int)) (hz : pal.size ≤ 140737488351232) : Ev (fun k => vitrineref11_Pixel.j6 k (W2 al) a s0 s1 s2 s3 s4 pal tr has) (px (257 * bt pal (3 * a)) (257 * bt pal (3 * a + 1)) (257 * bt pal (3 * a + 2)) al, 0) := by
  have w1 : wrap64 (3 * a) = 3 * a := w64 (by omega) (by omega)
  have w2 : wrap64 (3 * a + 1) = 3 * a + 1 := w64 (by omega) (by omega)
  have w3 : wrap64 (3 * a + 2) = 3 * a + 2 := w64 (by omega) (by omega)
  have t : ∀ i : Int, vitrineref11_two.f (wrap64 (257 * (wrap64 (bt pal i)))) = some (W2 (257 * bt pal i)) := fun i => by
    have := bt_range pal i
    rw [w64_bt, w64 (by omega) (by omega), two_f (by omega)]
  have c0 : 0 ≤ 3 * a := by omega
  have c1 : 3 * a < (pal.size : Int) := by omega
  have c2 : 0 ≤ 3 * a + 1 := by omega
  have c3 : 3 * a + 1 < (pal.size : Int) := by omega
  have c4 : 0 ≤ 3 * a + 2 := by omega
  have c5 : 3 * a + 2 < (pal.size : Int) := by omega
  refine Ev.step (f := fun _ => some (px (257 * bt pal (3 * a)) (257 * bt pal (3 * a + 1)) (257 * bt pal (3 * a + 2)) al, 0)) (fun k => ?_) (Ev.now _)
  simp only [vitrineref11_Pixel.j6]
  rw [w1, w2, w3, if_pos c0, if_pos c1, t]
  simp only [Option.bind_some]
  rw [if_pos c2, if_pos c3, t]
  simp only [Option.bind_some]
  rw [if_pos (lim (by rw [W2_size, W2_size]; decide)), if_pos c4, if_pos c5, t]
  simp only [Option.bind_some]
  rw [if_pos (lim (by rw [W2_size2, W2_size]; decide)), if_pos (lim (by rw [W2_size3, W2_size]; decide)), W2_px]
theorem pal_ev {l : List Int} {outs : List ByteArray} {s0 s1 s2 s4 : Int} {pal tr : ByteArray} {has : Bool} (hl0 : (0 : Int) < (l.length : Int)) (ha : 0 ≤ rd l 0 ∧ rd l 0 < 65536) (hz : pal.size ≤ 140737488351232) : Ev (fun k => vitrineref11_Pixel.j4 k l outs (W2 65535) s0 s1 s2 3 s4 pal tr has) (lst pal tr has (rd l 0)) := by
  have w1 : wrap64 (wrap64 (3 * rd l 0) + 3) = 3 * rd l 0 + 3 := by rw [w64 (x := 3 * rd l 0) (by omega) (by omega), w64 (by omega) (by omega)]
  unfold lst
  by_cases h : 3 * rd l 0 + 3 > (pal.size : Int)
  · rw [if_pos h]
    refine Ev.step (f := fun _ => some (⟨#[]⟩, 29)) (fun k => ?_) (Ev.now _)
    simp only [vitrineref11_Pixel.j4]
    rw [if_neg (by decide), if_neg (by decide), if_neg (by decide), if_neg (by decide), if_pos hl0, w1, if_pos h]
  · rw [if_neg h]
    have h3 : 3 * rd l 0 + 3 ≤ (pal.size : Int) := by omega
    have no : Ev (fun k => vitrineref11_Pixel.j5 k (W2 65535) (rd l 0) false s0 s1 s2 3 s4 pal tr has) (px (257 * bt pal (3 * rd l 0)) (257 * bt pal (3 * rd l 0 + 1)) (257 * bt pal (3 * rd l 0 + 2)) 65535, 0) := by
      refine Ev.step (fun k => ?_) (pal_go (s0 := s0) (s1 := s1) (s2 := s2) (s3 := 3) (s4 := s4) (tr := tr) (has := has) ha.1 h3 hz)
      simp only [vitrineref11_Pixel.j5, Bool.false_eq_true, if_false]
    have j4 : ∀ k, vitrineref11_Pixel.j4 (k + 1) l outs (W2 65535) s0 s1 s2 3 s4 pal tr has = if has = true then vitrineref11_Pixel.j5 k (W2 65535) (rd l 0) (decide (rd l 0 < (tr.size : Int))) s0 s1 s2 3 s4 pal tr has else vitrineref11_Pixel.j5 k (W2 65535) (rd l 0) false s0 s1 s2 3 s4 pal tr has := fun k => by
      simp only [vitrineref11_Pixel.j4]
      rw [if_neg (by decide), if_neg (by decide), if_neg (by decide), if_neg (by decide), if_pos hl0, w1, if_neg h]
    cases has with
    | false =>
      refine Ev.step (fun k => (j4 k).trans (if_neg (by decide))) ?_
      simpa using no
    | true =>
      refine Ev.step (fun k => (j4 k).trans (if_pos rfl)) ?_
      by_cases ht : rd l 0 < (tr.size : Int)
      · rw [decide_eq_true ht, if_pos ⟨rfl, ht⟩]
        have hb := bt_range tr (rd l 0)
        have e : vitrineref11_two.f (wrap64 (257 * (wrap64 (bt tr (rd l 0))))) = some (W2 (257 * bt tr (rd l 0))) := by rw [w64_bt, w64 (by omega) (by omega), two_f (by omega)]
        refine Ev.step (fun k => ?_) (pal_go (al := 257 * bt tr (rd l 0)) (s0 := s0) (s1 := s1) (s2 := s2) (s3 := 3) (s4 := s4) (tr := tr) (has := true) ha.1 h3 hz)
        simp only [vitrineref11_Pixel.j5, if_true]
        rw [if_pos ha.1, if_pos ht, e]
        rfl
      · rw [decide_eq_false ht, if_neg (fun h => ht h.2)]
        exact no
theorem rP_end {l : List Int} {s0 s1 s2 s3 s4 : Int} {pal tr : ByteArray} {has : Bool} (hl : l.length < 8796093022208) (hz : pal.size ≤ 140737488351232) (ho : okP s3 s2 l) :
    Ev (fun k => vitrineref11_Pixel.l0 k l (os l s2 l.length) (l.length : Int) s0 s1 s2 s3 s4 pal tr has) (pixGood s3 s2 pal tr has l) := by
  obtain ⟨h1, h2, h3, h4⟩ := ho
  have hb := bad_first h2 h4
  have hpw := (tab h3).2.1
  have hlen0 : (0 : Int) < (l.length : Int) := by omega
  have hl' : l.length ≤ 17592186044416 := by omega
  have hsame : Ev (fun k => vitrineref11_same.f k s0 s1 s2 s3 s4 pal tr has l) (gls tr has s2 l) := same_ev h3 hl'
  have t1 := two_f (n := 65535) (by decide)
  have t0 := two_f (n := 0) (by decide)
  have hneg : ¬ (l.length : Int) < (l.length : Int) := by omega
  have j3 : ∀ (b : Bool) (R : ByteArray × Int), Ev (fun k => vitrineref11_Pixel.j4 k l (os l s2 l.length) (W2 (if b = true then 0 else 65535)) s0 s1 s2 s3 s4 pal tr has) R → Ev (fun k => vitrineref11_Pixel.j3 k l (os l s2 l.length) (W2 65535) b s0 s1 s2 s3 s4 pal tr has) R := fun b R h => by
    refine Ev.step (fun k => ?_) h
    simp only [vitrineref11_Pixel.j3]
    cases b
    · rfl
    · rw [if_pos rfl, t0]
      rfl
  have hyes : (s3 = 0 ∨ s3 = 2) → ∀ R, Ev (fun k => vitrineref11_Pixel.j4 k l (os l s2 l.length) (W2 (alphaOf tr has s2 l)) s0 s1 s2 s3 s4 pal tr has) R → Ev (fun k => vitrineref11_Pixel.l0 k l (os l s2 l.length) (l.length : Int) s0 s1 s2 s3 s4 pal tr has) R := fun hc R h => by
    refine Ev.step (f := fun k => (vitrineref11_same.f k s0 s1 s2 s3 s4 pal tr has l).bind fun t250 => vitrineref11_Pixel.j3 k l (os l s2 l.length) (W2 65535) t250 s0 s1 s2 s3 s4 pal tr has) (fun k => ?_) (Ev.bind hsame (j3 _ R h))
    simp only [vitrineref11_Pixel.l0]
    rw [if_neg hneg, t1]
    simp only [Option.bind_some]
    rcases hc with hc | hc
    · rw [if_pos hc]
    · rw [if_neg (by omega), if_pos hc]
  have hno : s3 ≠ 0 → s3 ≠ 2 → ∀ R, Ev (fun k => vitrineref11_Pixel.j4 k l (os l s2 l.length) (W2 65535) s0 s1 s2 s3 s4 pal tr has) R → Ev (fun k => vitrineref11_Pixel.l0 k l (os l s2 l.length) (l.length : Int) s0 s1 s2 s3 s4 pal tr has) R := fun hc0 hc2 R h => by
    refine Ev.step (fun k => ?_) (j3 false R h)
    simp only [vitrineref11_Pixel.l0]
    rw [if_neg hneg, t1]
    simp only [Option.bind_some]
    rw [if_neg hc0, if_neg hc2]
  have l2 : ∀ a b : Int, (W2 a).size + (W2 b).size ≤ 9223372036854775807 := fun a b => lim (by rw [W2_size, W2_size]; decide)
  have l4 : ∀ a b c : Int, (W2 a ++ W2 b).size + (W2 c).size ≤ 9223372036854775807 := fun a b c => lim (by rw [W2_size2, W2_size]; decide)
  have l6 : ∀ a b c d : Int, ((W2 a ++ W2 b) ++ W2 c).size + (W2 d).size ≤ 9223372036854775807 := fun a b c d => lim (by rw [W2_size3, W2_size]; decide)
  rcases smp_cases s3 with ⟨hc, hs⟩ | ⟨hc, hs⟩ | ⟨hc, hs⟩ | ⟨hc, hs⟩ | ⟨hc, hs⟩ | hs
  · refine hyes (.inl hc) _ ?_
    have hL : l.length = 1 := by omega
    have hw : os l s2 1 = [W2 (ww l s2 0)] := rfl
    unfold pixGood
    rw [if_neg (by omega), if_pos hc, hL, hw]
    refine Ev.step (f := fun _ => some (px (ww l s2 0) (ww l s2 0) (ww l s2 0) (alphaOf tr has s2 l), 0)) (fun k => ?_) (Ev.now _)
    simp only [vitrineref11_Pixel.j4]
    rw [rd1, if_pos hc, if_pos (by first | decide | simp), if_pos (l2 _ _), if_pos (l4 _ _ _), if_pos (l6 _ _ _ _), W2_px]
  · refine hno (by omega) (by omega) _ ?_
    unfold pixGood
    rw [if_pos hc]
    subst hc
    exact pal_ev hlen0 ⟨hb.1, by omega⟩ hz
  · refine hyes (.inr hc) _ ?_
    have hL : l.length = 3 := by omega
    have hw : os l s2 3 = [W2 (ww l s2 0), W2 (ww l s2 1), W2 (ww l s2 2)] := rfl
    obtain ⟨r0, r1, r2⟩ := rd3 (W2 (ww l s2 0)) (W2 (ww l s2 1)) (W2 (ww l s2 2))
    unfold pixGood
    rw [if_neg (by omega), if_neg (by omega), if_pos hc, hL, hw]
    refine Ev.step (f := fun _ => some (px (ww l s2 0) (ww l s2 1) (ww l s2 2) (alphaOf tr has s2 l), 0)) (fun k => ?_) (Ev.now _)
    simp only [vitrineref11_Pixel.j4]
    rw [r0, r1, r2, if_neg (by omega), if_pos hc, if_pos (by first | decide | simp), if_pos (by first | decide | simp), if_pos (l2 _ _), if_pos (by first | decide | simp), if_pos (l4 _ _ _), if_pos (l6 _ _ _ _), W2_px]
  · refine hno (by omega) (by omega) _ ?_
    have hL : l.length = 2 := by omega
    have hw : os l s2 2 = [W2 (ww l s2 0), W2 (ww l s2 1)] := rfl
    obtain ⟨r0, r1⟩ := rd2 (W2 (ww l s2 0)) (W2 (ww l s2 1))
    unfold pixGood
    rw [if_neg (by omega), if_neg (by omega), if_neg (by omega), if_pos hc, hL, hw]
    refine Ev.step (f := fun _ => some (px (ww l s2 0) (ww l s2 0) (ww l s2 0) (ww l s2 1), 0)) (fun k => ?_) (Ev.now _)
    simp only [vitrineref11_Pixel.j4]
    rw [r0, r1, if_neg (by omega), if_neg (by omega), if_pos hc, if_pos (by first | decide | simp), if_pos (l2 _ _), if_pos (l4 _ _ _), if_pos (by first | decide | simp), if_pos (l6 _ _ _ _), W2_px]
  · refine hno (by omega) (by omega) _ ?_
    have hL : l.length = 4 := by omega
    have hw : os l s2 4 = [W2 (ww l s2 0), W2 (ww l s2 1), W2 (ww l s2 2), W2 (ww l s2 3)] := rfl
    obtain ⟨r0, r1, r2, r3⟩ := rd4 (W2 (ww l s2 0)) (W2 (ww l s2 1)) (W2 (ww l s2 2)) (W2 (ww l s2 3))
    unfold pixGood
    rw [if_neg (by omega), if_neg (by omega), if_neg (by omega), if_neg (by omega), hL, hw]
    refine Ev.step (f := fun _ => some (px (ww l s2 0) (ww l s2 1) (ww l s2 2) (ww l s2 3), 0)) (fun k => ?_) (Ev.now _)
    simp only [vitrineref11_Pixel.j4]
    rw [r0, r1, r2, r3, if_neg (by omega), if_neg (by omega), if_neg (by omega), if_pos hc, if_pos (by first | decide | simp), if_pos (by first | decide | simp), if_pos (l2 _ _), if_pos (by first | decide | simp), if_pos (l4 _ _ _), if_pos (by first | decide | simp), if_pos (l6 _ _ _ _), W2_px]
  · omega
theorem rPixel_ev {l : List Int} {s0 s1 s2 s3 s4 : Int} {pal tr : ByteArray} {has : Bool} (hl : l.length < 8796093022208) (hz : pal.size ≤ 140737488351232) :
    Ev (fun k => vitrineref11_Pixel.f k s0 s1 s2 s3 s4 pal tr has l) (pixAll s3 s2 pal tr has l) := by
  have hbad : ¬ okP s3 s2 l → Ev (fun k => vitrineref11_Pixel.j0 k l true s0 s1 s2 s3 s4 pal tr has) (pixAll s3 s2 pal tr has l) := fun hn => by
    unfold pixAll
    rw [if_neg hn]
    exact Ev.step (f := fun _ => some (⟨#[]⟩, 1)) (fun k => by simp only [vitrineref11_Pixel.j0, if_true]) (Ev.now _)
  unfold vitrineref11_Pixel.f
  refine Ev.bind (rSamples_ev s3) ?_
  by_cases h1 : (l.length : Int) = smp s3
  · simp only [h1, if_true]
    by_cases h0 : smp s3 = 0
    · simp only [h0, if_true]
      exact hbad (fun h => h.2.1 (by omega))
    · simp only [h0, if_false, Depth_f, Option.bind_some]
      by_cases hk : kn s2 = true
      · simp only [hk, Bool.not_true]
        have hloop := rP_loop11 (s0 := s0) (s1 := s1) (s3 := s3) (s4 := s4) (pal := pal) (tr := tr) (has := has) (R := pixGood s3 s2 pal tr has l) hl hk (fun hb => rP_end hl hz ⟨h1.symm, by omega, hk, hb⟩) l.length 0 (by omega) rfl
        have e : (if bad s2 l = false then pixGood s3 s2 pal tr has l else (⟨#[]⟩, 1)) = pixAll s3 s2 pal tr has l := by
          unfold pixAll
          by_cases hb : bad s2 l = false
          · rw [if_pos hb, if_pos ⟨h1.symm, by omega, hk, hb⟩]
          · rw [if_neg hb, if_neg (fun h => hb h.2.2.2)]
        rw [e] at hloop
        refine Ev.step (fun k => ?_) hloop
        simp only [vitrineref11_Pixel.j0, Bool.false_eq_true, if_false]
        rfl
      · have hk' : kn s2 = false := by cases e : kn s2 <;> simp_all
        simp only [hk', Bool.not_false]
        exact hbad (fun h => hk h.2.2.1)
  · simp only [h1, if_false]
    exact hbad (fun h => h1 h.1.symm)

end Go.Proofs.Ytpccfanjdbenlaa.Pure
