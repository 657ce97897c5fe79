/- The plain laws of layer 9 (filter): the filtered line, the line undone, and the picked kind, by the program and by the document's answer, are the same; filtering and undoing are each other's inverse. Conditions: numbers of 64 bits, strings of at most 2^47 - 4096 bytes. -/
import Derived.Test.YtaomopibnehanaaPF09x1
import Derived.Test.YtaomopibnehanaaPF09x2
import Derived.Test.YtaomopibnehanaaPF09x3
import Derived.Test.YtaomopibnehanaaPF09x4
import Derived.Test.YtaomopibnehanaaPF09x5
import Derived.Test.YtaomopibnehanaaPF09x6
import Derived.Test.YtaomopibnehanaaPF09x7
import Derived.Test.YtaomopibnehanaaPureBase
namespace Go.Proofs.Ytaomopibnehanaa.Pure
open Go.RowKit Go.Proofs.YtaomopibnehanaaW.PrintWords Go.Proofs.YtaomopibnehanaaW.PrintLast Go.Proofs.YtaomopibnehanaaW.PrintMore Go.Proofs.Ytaomopibnehanaa.PF09
set_option linter.unusedVariables false
set_option linter.unusedSimpArgs false
/-- What a kind foretells. -/
def pae (a b c : Int) : Int :=
  if ((a + b - c - a).natAbs ≤ (a + b - c - b).natAbs ∧ (a + b - c - a).natAbs ≤ (a + b - c - c).natAbs) then a else if (a + b - c - b).natAbs ≤ (a + b - c - c).natAbs then b else c
def pred (kind a b c : Int) : Int := if kind = 1 then a else if kind = 2 then b else if kind = 3 then (a + b) / 2 else if kind = 4 then pae a b c else 0
theorem pae_range {a b c : Int} (ha : 0 ≤ a ∧ a ≤ 255) (hb : 0 ≤ b ∧ b ≤ 255) (hc : 0 ≤ c ∧ c ≤ 255) : 0 ≤ pae a b c ∧ pae a b c ≤ 255 := by
  unfold pae
  split
  · exact ha
  · split
    · exact hb
    · exact hc
theorem pred_range {kind a b c : Int} (ha : 0 ≤ a ∧ a ≤ 255) (hb : 0 ≤ b ∧ b ≤ 255) (hc : 0 ≤ c ∧ c ≤ 255) : 0 ≤ pred kind a b c ∧ pred kind a b c ≤ 255 := by
  have := pae_range ha hb hc
  unfold pred
  repeat' split
  all_goals omega
theorem apart_f {a b : Int} (ha : -1000 ≤ a ∧ a ≤ 1000) (hb : -1000 ≤ b ∧ b ≤ 1000) : filter_apart.f a b = some ((a - b).natAbs : Int) := by
  unfold filter_apart.f
  rw [w64 (by omega) (by omega), w64 (by omega) (by omega)]
  split
  · congr 1; omega
  · congr 1; omega
theorem near_ev {a b c : Int} (ha : 0 ≤ a ∧ a ≤ 255) (hb : 0 ≤ b ∧ b ≤ 255) (hc : 0 ≤ c ∧ c ≤ 255) : Ev (fun k => filter_nearest.f k a b c) (pae a b c) := by
  have e1 : wrap64 (wrap64 (a + b) - c) = a + b - c := by rw [w64 (x := a + b) (by omega) (by omega), w64 (by omega) (by omega)]
  have r0 : rd [b, c] 0 = b := rfl
  have r1 : rd [b, c] 1 = c := rfl
  have w1 : wrap64 (0 + 1) = 1 := w64 (by omega) (by omega)
  have w2 : wrap64 (1 + 1) = 2 := w64 (by omega) (by omega)
  have pa := apart_f (a := a + b - c) (b := a) (by omega) (by omega)
  have pb := apart_f (a := a + b - c) (b := b) (by omega) (by omega)
  have pc := apart_f (a := a + b - c) (b := c) (by omega) (by omega)
  have last : ∀ x : Int, Ev (fun k => filter_nearest.l0 k (a + b - c) x [b, c] 2 2) x := fun x => Ev.step (f := fun _ => some x) (fun k => by simp only [filter_nearest.l0]; rw [if_neg (by omega)]) (Ev.now x)
  refine Ev.congr (f := fun k => filter_nearest.l0 k (a + b - c) a [b, c] 2 0) (fun k => by unfold filter_nearest.f; simp only [Option.bind_some, e1]; rfl) ?_
  by_cases h1 : ((a + b - c - b).natAbs : Int) < ((a + b - c - a).natAbs : Int)
  · refine Ev.step (f := fun k => filter_nearest.l0 k (a + b - c) b [b, c] 2 1) (fun k => by simp only [filter_nearest.l0]; rw [if_pos (by omega), if_pos (by omega), if_pos (by simp), r0, pa, pb]; simp only [Option.bind_some, w1]; rw [if_pos h1]) ?_
    by_cases h2 : ((a + b - c - c).natAbs : Int) < ((a + b - c - b).natAbs : Int)
    · refine Ev.step (f := fun k => filter_nearest.l0 k (a + b - c) c [b, c] 2 2) (fun k => by simp only [filter_nearest.l0]; rw [if_pos (by omega), if_pos (by omega), if_pos (by simp), r1, pb, pc]; simp only [Option.bind_some, w2]; rw [if_pos h2]) ?_
      exact ev_same (last c) (by unfold pae; rw [if_neg (by omega), if_neg (by omega)])
    · refine Ev.step (f := fun k => filter_nearest.l0 k (a + b - c) b [b, c] 2 2) (fun k => by simp only [filter_nearest.l0]; rw [if_pos (by omega), if_pos (by omega), if_pos (by simp), r1, pb, pc]; simp only [Option.bind_some, w2]; rw [if_neg h2]) ?_
      exact ev_same (last b) (by unfold pae; rw [if_neg (by omega), if_pos (by omega)])
  · refine Ev.step (f := fun k => filter_nearest.l0 k (a + b - c) a [b, c] 2 1) (fun k => by simp only [filter_nearest.l0]; rw [if_pos (by omega), if_pos (by omega), if_pos (by simp), r0, pa, pb]; simp only [Option.bind_some, w1]; rw [if_neg h1]) ?_
    by_cases h2 : ((a + b - c - c).natAbs : Int) < ((a + b - c - a).natAbs : Int)
    · refine Ev.step (f := fun k => filter_nearest.l0 k (a + b - c) c [b, c] 2 2) (fun k => by simp only [filter_nearest.l0]; rw [if_pos (by omega), if_pos (by omega), if_pos (by simp), r1, pa, pc]; simp only [Option.bind_some, w2]; rw [if_pos h2]) ?_
      exact ev_same (last c) (by unfold pae; rw [if_neg (by omega), if_neg (by omega)])
    · refine Ev.step (f := fun k => filter_nearest.l0 k (a + b - c) a [b, c] 2 2) (fun k => by simp only [filter_nearest.l0]; rw [if_pos (by omega), if_pos (by omega), if_pos (by simp), r1, pa, pc]; simp only [Option.bind_some, w2]; rw [if_neg h2]) ?_
      exact ev_same (last a) (by unfold pae; rw [if_pos (by omega)])
theorem fore_ev {kind a b c : Int} (hk : 0 ≤ kind ∧ kind ≤ 4) (ha : 0 ≤ a ∧ a ≤ 255) (hb : 0 ≤ b ∧ b ≤ 255) (hc : 0 ≤ c ∧ c ≤ 255) : Ev (fun k => filter_foretold.f k kind a b c) (pred kind a b c) := by
  unfold filter_foretold.f
  refine Ev.bind (near_ev ha hb hc) ?_
  simp only [hk.1, show kind < 5 by omega, if_true]
  rw [w64 (x := a + b) (by omega) (by omega)]
  obtain h | h | h | h | h : kind = 0 ∨ kind = 1 ∨ kind = 2 ∨ kind = 3 ∨ kind = 4 := by omega
  all_goals
    subst h
    exact Ev.now _
theorem away_f {a b : Int} (ha : -1000 ≤ a ∧ a ≤ 1000) (hb : -1000 ≤ b ∧ b ≤ 1000) : vitrineref09_away.f a b = some ((a - b).natAbs : Int) := by
  unfold vitrineref09_away.f
  rw [w64 (by omega) (by omega), w64 (by omega) (by omega)]
  unfold mx
  split
  · congr 1; omega
  · congr 1; omega
theorem tells_ev {kind a b c : Int} (hk : 0 ≤ kind ∧ kind ≤ 4) (ha : 0 ≤ a ∧ a ≤ 255) (hb : 0 ≤ b ∧ b ≤ 255) (hc : 0 ≤ c ∧ c ≤ 255) : Ev (fun k => vitrineref09_tells.f k kind a b c) (pred kind a b c) := by
  have e1 : wrap64 (wrap64 (a + b) - c) = a + b - c := by rw [w64 (x := a + b) (by omega) (by omega), w64 (by omega) (by omega)]
  have pa := away_f (a := a + b - c) (b := a) (by omega) (by omega)
  have pb := away_f (a := a + b - c) (b := b) (by omega) (by omega)
  have pc := away_f (a := a + b - c) (b := c) (by omega) (by omega)
  unfold vitrineref09_tells.f
  obtain h | h | h | h | h : kind = 0 ∨ kind = 1 ∨ kind = 2 ∨ kind = 3 ∨ kind = 4 := by omega
  · subst h; exact Ev.now _
  · subst h; exact Ev.now _
  · subst h; exact Ev.now _
  · subst h
    refine Ev.congr (f := fun _ => some ((a + b) / 2)) (fun k => ?_) (Ev.now _)
    rw [if_neg (by decide), if_neg (by decide), if_pos rfl, w64 (x := a + b) (by omega) (by omega), Int.tdiv_eq_ediv_of_nonneg (by omega), w64 (by omega) (by omega)]
  · subst h
    have hj0 : ∀ x1 x2 x3 x9 : Int, Ev (fun k => vitrineref09_tells.j0 k x1 x2 x3 x9 true) x1 := fun x1 x2 x3 x9 => Ev.step (f := fun _ => some x1) (fun k => by simp only [vitrineref09_tells.j0, if_true]) (Ev.now _)
    have hj1 : Ev (fun k => vitrineref09_tells.j0 k a b c (a + b - c) false) (if (a + b - c - b).natAbs ≤ (a + b - c - c).natAbs then b else c) := by
      refine Ev.step (f := fun _ => some (if (a + b - c - b).natAbs ≤ (a + b - c - c).natAbs then b else c)) (fun k => ?_) (Ev.now _)
      simp only [vitrineref09_tells.j0]
      rw [if_neg (by decide), pb, pc]
      simp only [Option.bind_some]
      by_cases h : (a + b - c - b).natAbs ≤ (a + b - c - c).natAbs
      · rw [if_pos h, if_pos (by omega)]
      · rw [if_neg h, if_neg (by omega)]
    simp only [show ¬ (4 : Int) = 1 by decide, show ¬ (4 : Int) = 2 by decide, show ¬ (4 : Int) = 3 by decide, if_false, if_true, e1, pa, pb, pc, Option.bind_some]
    unfold pred
    rw [if_neg (by decide), if_neg (by decide), if_neg (by decide), if_pos rfl]
    unfold pae
    by_cases h1 : (a + b - c - a).natAbs ≤ (a + b - c - b).natAbs
    · by_cases h2 : (a + b - c - a).natAbs ≤ (a + b - c - c).natAbs
      · rw [if_pos ⟨h1, h2⟩]
        refine Ev.congr (fun k => ?_) (hj0 a b c (a + b - c))
        rw [if_pos (by omega), decide_eq_true (by omega)]
      · rw [if_neg (by omega)]
        refine Ev.congr (fun k => ?_) hj1
        rw [if_pos (by omega), decide_eq_false (by omega)]
    · rw [if_neg (by omega)]
      refine Ev.congr (fun k => ?_) hj1
      rw [if_neg (by omega)]
/-- What is wrong with a call. -/
def wrg (bpp kind : Int) (line above : ByteArray) : Int := if bpp < 1 ∨ bpp > 8 ∨ (above.toList ≠ [] ∧ above.size ≠ line.size) then 1 else if kind < 0 ∨ kind > 4 then 28 else 0
theorem wrong_ev (bpp kind : Int) (line above : ByteArray) : Ev (fun k => filter_wrong.f k bpp kind line above) (wrg bpp kind line above) := by
  have ht : Ev (fun k => filter_wrong.j0 k kind true) 1 := Ev.step (f := fun _ => some 1) (fun k => by simp only [filter_wrong.j0, if_true]) (Ev.now _)
  have hf : Ev (fun k => filter_wrong.j0 k kind false) (if kind < 0 ∨ kind > 4 then 28 else 0) := by
    refine Ev.step (f := fun _ => some (if kind < 0 ∨ kind > 4 then 28 else 0)) (fun k => ?_) (Ev.now _)
    simp only [filter_wrong.j0]
    rw [if_neg (by decide)]
    by_cases h1 : kind < 0
    · rw [if_pos h1, if_pos (.inl h1)]
    · rw [if_neg h1]
      by_cases h2 : kind ≥ 5
      · rw [if_pos h2, if_pos (by omega)]
      · rw [if_neg h2, if_neg (by omega)]
  unfold filter_wrong.f wrg
  by_cases h1 : bpp < 1
  · simp only [h1, if_true, true_or]; exact ht
  by_cases h2 : bpp > 8
  · simp only [h1, h2, if_true, if_false, true_or, or_true]; exact ht
  by_cases h3 : above.toList = []
  · simp only [h1, h2, h3, if_true, if_false, false_or, ne_eq, not_true, false_and]; exact hf
  simp only [h1, h2, h3, if_false, false_or, ne_eq, not_false_iff, true_and]
  by_cases h4 : above.size = line.size
  · simp only [h4, bne_self_eq_false, not_true, if_false]; exact hf
  · have : ((above.size : Int) != (line.size : Int)) = true := by rw [bne_iff_ne]; omega
    simp only [this, h4, not_false_iff, if_true]; exact ht
theorem rwrong_ev (bpp kind : Int) (line above : ByteArray) : Ev (fun k => vitrineref09_wrong.f k bpp kind line above) (wrg bpp kind line above) := by
  have ht : Ev (fun k => vitrineref09_wrong.j0 k kind true) 1 := Ev.step (f := fun _ => some 1) (fun k => by simp only [vitrineref09_wrong.j0, if_true]) (Ev.now _)
  have hf : Ev (fun k => vitrineref09_wrong.j0 k kind false) (if kind < 0 ∨ kind > 4 then 28 else 0) := by
    refine Ev.step (f := fun _ => some (if kind < 0 ∨ kind > 4 then 28 else 0)) (fun k => ?_) (Ev.now _)
    simp only [vitrineref09_wrong.j0]
    rw [if_neg (by decide)]
    by_cases h1 : kind < 0
    · rw [if_pos h1, if_pos (.inl h1)]
    · rw [if_neg h1]
      by_cases h2 : kind > 4
      · rw [if_pos h2, if_pos (by omega)]
      · rw [if_neg h2, if_neg (by omega)]
  unfold vitrineref09_wrong.f wrg
  by_cases h1 : bpp < 1
  · simp only [h1, if_true, true_or]; exact ht
  by_cases h2 : bpp > 8
  · simp only [h1, h2, if_true, if_false, true_or, or_true]; exact ht
  by_cases h3 : above.toList = []
  · simp only [h1, h2, h3, if_true, if_false, false_or, ne_eq, not_true, false_and]; exact hf
  simp only [h1, h2, h3, if_false, false_or, ne_eq, not_false_iff, true_and]
  by_cases h4 : above.size = line.size
  · simp only [h4, bne_self_eq_false, not_true, if_false]; exact hf
  · have : ((above.size : Int) != (line.size : Int)) = true := by rw [bne_iff_ne]; omega
    simp only [this, h4, not_false_iff, if_true]; exact ht
/-- A byte, or 0 where there is none. -/
theorem at_f (s : ByteArray) (i : Int) : vitrineref09_at.f s i = some (if i < 0 then 0 else bt s i) := by
  unfold vitrineref09_at.f
  by_cases h1 : i < 0
  · rw [if_pos h1, if_pos h1]
  · rw [if_neg h1, if_neg h1]
    by_cases h2 : i ≥ (s.size : Int)
    · rw [if_pos h2]
      have : bt s i = 0 := by unfold bt; rw [dif_neg (by omega)]
      rw [this]
    · rw [if_neg h2, if_pos (by omega), if_pos (by omega), w64_bt]
/-- The byte above, and the one before that: 0 where there is none. -/
def lft (line : ByteArray) (bpp : Int) (i : Nat) : Int := if (i : Int) ≥ bpp then bt line (i - bpp) else 0
/-- A filtered byte. -/
def doAt (bpp kind : Int) (line above : ByteArray) (i : Nat) : Int := (bt line i - pred kind (lft line bpp i) (bt above i) (lft above bpp i)) % 256
theorem lft_range (line : ByteArray) (bpp : Int) (i : Nat) : 0 ≤ lft line bpp i ∧ lft line bpp i ≤ 255 := by
  unfold lft
  split
  · exact bt_range _ _
  · omega
theorem bt_empty {s : ByteArray} (h : s.toList = []) (i : Int) : bt s i = 0 := by
  have : s.size = 0 := by
    rw [toList_data] at h
    have : s.data.size = 0 := by rw [← Array.length_toList, h]; rfl
    exact this
  unfold bt
  rw [dif_neg (by omega)]
/-- One round of the program's loop: out's byte i. sg: -1 filters, 1 undoes. -/
theorem round_ev {bpp kind sg : Int} {line above : ByteArray} {out : List Int} {i : Nat} {r : ByteArray × Int} (hb : 1 ≤ bpp ∧ bpp ≤ 8) (hk : 0 ≤ kind ∧ kind ≤ 4) (hs : sg = -1 ∨ sg = 1) (hn : line.size ≤ 140737488351232) (ha : above.toList = [] ∨ above.size = line.size)
    (ho : out.length = line.size) (hbo : Byt out) (hi : i < line.size)
    (h : Ev (fun k => filter_through.l0 k bpp kind sg line above (out.set i ((bt line i + sg * pred kind (if (i : Int) ≥ bpp then (if sg > 0 then rd out (i - bpp) else bt line (i - bpp)) else 0) (bt above i) (lft above bpp i)) % 256)) line.size ((i + 1 : Nat) : Int)) r) :
    Ev (fun k => filter_through.l0 k bpp kind sg line above out line.size (i : Int)) r := by
  have w1 : wrap64 ((i : Int) + 1) = ((i + 1 : Nat) : Int) := by rw [w64 (by omega) (by omega)]; rfl
  have w2 : wrap64 ((i : Int) - bpp) = (i : Int) - bpp := w64 (by omega) (by omega)
  have wr : ∀ j, wrap64 (rd out j) = rd out j := fun j => by have := byt_rd hbo j; exact w64 (by omega) (by omega)
  have c1 : (i : Int) < (line.size : Int) := by omega
  have c2 : (0 : Int) ≤ (i : Int) := by omega
  have c3 : (i : Int) < (out.length : Int) := by omega
  -- the second half of a round, whatever b and c are
  have half : ∀ b c : Int, (0 ≤ b ∧ b ≤ 255) → (0 ≤ c ∧ c ≤ 255) → b = bt above i → c = 0 → (above.toList ≠ [] → (i : Int) < (above.size : Int)) →
      Ev (fun k => filter_through.j1 k bpp kind sg line above out (i : Int) 0 b c line.size (i : Int)) r := by
    intro b c hbr hcr hbe hce hab
    have val : ∀ A B C t : Int, (0 ≤ t ∧ t ≤ 255) → wrap64 (wrap64 (bt line i) + wrap64 (sg * t)) % 256 = (bt line i + sg * t) % 256 := by
      intro A B C t ht
      have hl := bt_range line i
      rw [w64_bt]
      rcases hs with rfl | rfl
      · rw [w64 (x := -1 * t) (by omega) (by omega), w64 (by omega) (by omega)]
      · rw [w64 (x := 1 * t) (by omega) (by omega), w64 (by omega) (by omega)]
    have go : ∀ A C : Int, (0 ≤ A ∧ A ≤ 255) → (0 ≤ C ∧ C ≤ 255) → A = (if (i : Int) ≥ bpp then (if sg > 0 then rd out (i - bpp) else bt line (i - bpp)) else 0) → C = lft above bpp i →
        Ev (fun k => (filter_foretold.f k kind A b C).bind fun t => if (i : Int) < (out.length : Int) then filter_through.l0 k bpp kind sg line above (out.set (i : Int).toNat (wrap64 (wrap64 (bt line i) + wrap64 (sg * t)) % 256)) line.size (wrap64 ((i : Int) + 1)) else none) r := by
      intro A C hA hC eA eC
      refine Ev.bind (fore_ev hk hA hbr hC) ?_
      refine Ev.congr (fun k => ?_) h
      rw [if_pos c3, val 0 0 0 _ (pred_range hA hbr hC), w1, Int.toNat_natCast, ← eA, ← hbe, ← eC]
    by_cases h1 : (i : Int) ≥ bpp
    · have c4 : (0 : Int) ≤ (i : Int) - bpp := by omega
      have c5 : (i : Int) - bpp < (line.size : Int) := by omega
      have c6 : (i : Int) - bpp < (out.length : Int) := by omega
      by_cases h2 : sg > 0
      · by_cases h3 : above.toList = []
        · refine Ev.step (fun k => ?_) (go (rd out (i - bpp)) 0 (byt_rd hbo _) (by omega) (by rw [if_pos h1, if_pos h2]) (by unfold lft; rw [if_pos h1, bt_empty h3]))
          simp only [filter_through.j1, h1, h2, h3, c1, c2, c4, c5, c6, w2, wr, hce, if_true]
        · have c7 : (i : Int) - bpp < (above.size : Int) := by have := hab h3; omega
          refine Ev.step (fun k => ?_) (go (rd out (i - bpp)) (bt above (i - bpp)) (byt_rd hbo _) (bt_range _ _) (by rw [if_pos h1, if_pos h2]) (by unfold lft; rw [if_pos h1]))
          simp only [filter_through.j1, h1, h2, h3, c1, c2, c4, c5, c6, c7, w2, wr, w64_bt, if_true, if_false]
      · by_cases h3 : above.toList = []
        · refine Ev.step (fun k => ?_) (go (bt line (i - bpp)) 0 (bt_range _ _) (by omega) (by rw [if_pos h1, if_neg h2]) (by unfold lft; rw [if_pos h1, bt_empty h3]))
          simp only [filter_through.j1, h1, h2, h3, c1, c2, c4, c5, c6, w2, wr, hce, w64_bt, if_true, if_false]
        · have c7 : (i : Int) - bpp < (above.size : Int) := by have := hab h3; omega
          refine Ev.step (fun k => ?_) (go (bt line (i - bpp)) (bt above (i - bpp)) (bt_range _ _) (bt_range _ _) (by rw [if_pos h1, if_neg h2]) (by unfold lft; rw [if_pos h1]))
          simp only [filter_through.j1, h1, h2, h3, c1, c2, c4, c5, c6, c7, w2, wr, w64_bt, if_true, if_false]
    · refine Ev.step (fun k => ?_) (go 0 0 (by omega) (by omega) (by rw [if_neg h1]) (by unfold lft; rw [if_neg h1]))
      simp only [filter_through.j1, h1, c1, c2, hce, w64_bt, if_true, if_false]
  by_cases h3 : above.toList = []
  · refine Ev.step (fun k => ?_) (half 0 0 (by omega) (by omega) (bt_empty h3 _).symm rfl (fun h => absurd h3 h))
    simp only [filter_through.l0, c1, h3, if_true]
  · have c7 : (i : Int) < (above.size : Int) := by
      rcases ha with ha | ha
      · exact absurd ha h3
      · omega
    refine Ev.step (fun k => ?_) (half (bt above i) 0 (bt_range _ _) (by omega) rfl rfl (fun _ => c7))
    simp only [filter_through.l0, c1, c2, c7, h3, w64_bt, if_true, if_false]
theorem doAt_range (bpp kind : Int) (line above : ByteArray) (i : Nat) : 0 ≤ doAt bpp kind line above i ∧ doAt bpp kind line above i ≤ 255 := by
  unfold doAt
  omega
def doL (bpp kind : Int) (line above : ByteArray) : List Int := (List.range line.size).map (doAt bpp kind line above)
theorem byt_map {f : Nat → Int} {n : Nat} (h : ∀ i, 0 ≤ f i ∧ f i ≤ 255) : Byt ((List.range n).map f) := by
  intro x hx
  obtain ⟨i, _, rfl⟩ := List.mem_map.1 hx
  exact h i
theorem byt_pad {xs : List Int} (h : Byt xs) (d : Nat) : Byt (xs ++ List.replicate d 0) := by
  intro x hx
  rcases List.mem_append.1 hx with hx | hx
  · exact h x hx
  · rw [List.eq_of_mem_replicate hx]; omega
/-- The program's loop filters. -/
theorem do_loop {bpp kind : Int} {line above : ByteArray} (hb : 1 ≤ bpp ∧ bpp ≤ 8) (hk : 0 ≤ kind ∧ kind ≤ 4) (hn : line.size ≤ 140737488351232) (ha : above.toList = [] ∨ above.size = line.size) :
    ∀ d i : Nat, i + d = line.size → Ev (fun k => filter_through.l0 k bpp kind (-1) line above ((List.range i).map (doAt bpp kind line above) ++ List.replicate d 0) line.size (i : Int)) (strOfNums (doL bpp kind line above), 0) := by
  intro d
  induction d with
  | zero =>
    intro i hi
    have : i = line.size := by omega
    subst this
    refine Ev.step (f := fun _ => some (strOfNums (doL bpp kind line above), 0)) (fun k => ?_) (Ev.now _)
    simp only [filter_through.l0]
    rw [if_neg (by omega), List.replicate_zero, List.append_nil]
    rfl
  | succ d ih =>
    intro i hi
    refine round_ev hb hk (.inl rfl) hn ha (by simp; omega) (byt_pad (byt_map (doAt_range _ _ _ _)) _) (by omega) ?_
    rw [range_set _ (show _ = doAt bpp kind line above i from ?_)]
    · exact ih (i + 1) (by omega)
    · rw [if_neg (show ¬ (-1 : Int) > 0 by decide)]
      unfold doAt lft
      congr 1
      omega
theorem wrg_zero {bpp kind : Int} {line above : ByteArray} (h0 : wrg bpp kind line above = 0) : (1 ≤ bpp ∧ bpp ≤ 8) ∧ (0 ≤ kind ∧ kind ≤ 4) ∧ (above.toList = [] ∨ above.size = line.size) := by
  unfold wrg at h0
  by_cases h : bpp < 1 ∨ bpp > 8 ∨ (above.toList ≠ [] ∧ above.size ≠ line.size)
  · rw [if_pos h] at h0; omega
  · rw [if_neg h] at h0
    by_cases h2 : kind < 0 ∨ kind > 4
    · rw [if_pos h2] at h0; omega
    · refine ⟨by omega, by omega, ?_⟩
      by_cases h3 : above.toList = []
      · exact .inl h3
      · exact .inr (Classical.byContradiction fun h4 => h (.inr (.inr ⟨h3, h4⟩)))
theorem Do_ev {bpp kind : Int} {line above : ByteArray} (hn : line.size ≤ 140737488351232) :
    Ev (fun k => filter_Do.f k bpp kind line above) (if wrg bpp kind line above = 0 then (strOfNums (doL bpp kind line above), 0) else ((⟨#[]⟩ : ByteArray), wrg bpp kind line above)) := by
  unfold filter_Do.f
  refine ev_id (g := fun k => filter_through.f k bpp kind (-1) line above) ?_
  unfold filter_through.f
  refine Ev.bind (wrong_ev bpp kind line above) ?_
  by_cases h0 : wrg bpp kind line above = 0
  · rw [if_pos h0]
    simp only [h0, if_true]
    have h1 : (0 : Int) ≤ (line.size : Int) := by omega
    have h2 : line.size ≤ 281474976710656 := by omega
    simp only [Int.toNat_natCast, h1, h2, if_true, Option.bind_some, List.length_replicate]
    obtain ⟨hb, hk, ha⟩ := wrg_zero h0
    have := do_loop hb hk hn ha line.size 0 (by omega)
    simpa using this
  · rw [if_neg h0]
    simp only [h0, if_false]
    exact Ev.now _
/-- The document's loop filters, too. -/
theorem rdo_loop {bpp kind : Int} {line above : ByteArray} (hb : 1 ≤ bpp ∧ bpp ≤ 8) (hk : 0 ≤ kind ∧ kind ≤ 4) (hn : line.size ≤ 140737488351232) :
    ∀ d i : Nat, i + d = line.size → Ev (fun k => vitrineref09_Do.l0 k bpp kind line above ((List.range i).map (doAt bpp kind line above)) (i : Int)) (strOfNums (doL bpp kind line above), 0) := by
  intro d
  induction d with
  | zero =>
    intro i hi
    have : i = line.size := by omega
    subst this
    refine Ev.step (f := fun _ => some (strOfNums (doL bpp kind line above), 0)) (fun k => ?_) (Ev.now _)
    simp only [vitrineref09_Do.l0]
    rw [if_neg (by omega)]
    rfl
  | succ d ih =>
    intro i hi
    have w1 : wrap64 ((i : Int) + 1) = ((i + 1 : Nat) : Int) := by rw [w64 (by omega) (by omega)]; rfl
    have w2 : wrap64 ((i : Int) - bpp) = (i : Int) - bpp := w64 (by omega) (by omega)
    have c1 : (i : Int) < (line.size : Int) := by omega
    have c2 : (0 : Int) ≤ (i : Int) := by omega
    have c3 : ¬ (i : Int) < 0 := by omega
    have c4 : ((List.range i).map (doAt bpp kind line above)).length < 140737488355328 := by simp; omega
    have nx := ih (i + 1) (by omega)
    rw [List.range_succ, List.map_append, List.map_singleton] at nx
    have hl := bt_range line i
    have hp := pred_range (kind := kind) (lft_range line bpp i) (bt_range above i) (lft_range above bpp i)
    have hv : wrap64 (wrap64 (bt line i) - pred kind (lft line bpp i) (bt above i) (lft above bpp i)) % 256 = doAt bpp kind line above i := by
      rw [w64_bt, w64 (by omega) (by omega)]; rfl
    have tl := tells_ev hk (lft_range line bpp i) (bt_range above i) (lft_range above bpp i)
    have fin : Ev (fun k => (vitrineref09_tells.f k kind (lft line bpp i) (bt above i) (lft above bpp i)).bind fun t => if ((List.range i).map (doAt bpp kind line above)).length < 140737488355328 then vitrineref09_Do.l0 k bpp kind line above ((List.range i).map (doAt bpp kind line above) ++ [wrap64 (wrap64 (bt line i) - t) % 256]) (wrap64 ((i : Int) + 1)) else none) (strOfNums (doL bpp kind line above), 0) := by
      refine Ev.bind tl ?_
      refine Ev.congr (fun k => ?_) nx
      rw [if_pos c4, hv, w1]
    by_cases h1 : (i : Int) ≥ bpp
    · have c5 : ¬ (i : Int) - bpp < 0 := by omega
      have e1 : lft line bpp i = bt line (i - bpp) := by unfold lft; rw [if_pos h1]
      have e2 : lft above bpp i = bt above (i - bpp) := by unfold lft; rw [if_pos h1]
      rw [e1, e2] at fin
      refine Ev.step (fun k => ?_) fin
      simp only [vitrineref09_Do.l0, c1, c2, c3, c5, h1, w2, at_f, Option.bind_some, if_true, if_false]
    · have c5 : (i : Int) - bpp < 0 := by omega
      have e1 : lft line bpp i = 0 := by unfold lft; rw [if_neg h1]
      have e2 : lft above bpp i = 0 := by unfold lft; rw [if_neg h1]
      rw [e1, e2] at fin
      refine Ev.step (fun k => ?_) fin
      simp only [vitrineref09_Do.l0, c1, c2, c3, c5, h1, w2, at_f, Option.bind_some, if_true, if_false]
theorem rDo_ev {bpp kind : Int} {line above : ByteArray} (hn : line.size ≤ 140737488351232) :
    Ev (fun k => vitrineref09_Do.f k bpp kind line above) (if wrg bpp kind line above = 0 then (strOfNums (doL bpp kind line above), 0) else ((⟨#[]⟩ : ByteArray), wrg bpp kind line above)) := by
  unfold vitrineref09_Do.f
  refine Ev.bind (rwrong_ev bpp kind line above) ?_
  by_cases h0 : wrg bpp kind line above = 0
  · rw [if_pos h0]
    simp only [h0, if_true]
    obtain ⟨hb, hk, _⟩ := wrg_zero h0
    have := rdo_loop (above := above) hb hk hn line.size 0 (by omega)
    simpa using this
  · rw [if_neg h0]
    simp only [h0, if_false]
    exact Ev.now _
/-- The line undone, byte by byte. -/
def unL (bpp kind : Int) (line above : ByteArray) : Nat → List Int
  | 0 => []
  | i + 1 => unL bpp kind line above i ++ [(bt line i + pred kind (if (i : Int) ≥ bpp then rd (unL bpp kind line above i) (i - bpp) else 0) (bt above i) (lft above bpp i)) % 256]
theorem unL_succ (bpp kind : Int) (line above : ByteArray) (i : Nat) : unL bpp kind line above (i + 1) = unL bpp kind line above i ++ [(bt line i + pred kind (if (i : Int) ≥ bpp then rd (unL bpp kind line above i) (i - bpp) else 0) (bt above i) (lft above bpp i)) % 256] := rfl
theorem unL_length (bpp kind : Int) (line above : ByteArray) (i : Nat) : (unL bpp kind line above i).length = i := by
  induction i with
  | zero => rfl
  | succ i ih => simp [unL, ih]
theorem unL_byt (bpp kind : Int) (line above : ByteArray) (i : Nat) : Byt (unL bpp kind line above i) := by
  induction i with
  | zero => intro x hx; simp [unL] at hx
  | succ i ih =>
    intro x hx
    unfold unL at hx
    rcases List.mem_append.1 hx with hx | hx
    · exact ih x hx
    · rw [List.mem_singleton.1 hx]; omega
theorem rd_pad {xs : List Int} {d : Nat} {j : Int} (h1 : j < xs.length) : rd (xs ++ List.replicate d 0) j = rd xs j := by
  unfold rd
  by_cases h0 : xs = []
  · subst h0
    simp only [List.nil_append, List.length_nil] at *
    rw [List.getD_eq_getElem?_getD, List.getD_eq_getElem?_getD]
    simp [List.getElem?_replicate]
    split <;> rfl
  · rw [List.getD_eq_getElem?_getD, List.getD_eq_getElem?_getD, List.getElem?_append_left]
    have : 0 < xs.length := List.length_pos_iff.2 h0
    omega
theorem snoc_set (xs : List Int) (v : Int) (d : Nat) : (xs ++ List.replicate (d + 1) 0).set xs.length v = (xs ++ [v]) ++ List.replicate d 0 := by
  rw [List.set_append_right _ _ (Nat.le_refl _), Nat.sub_self, List.replicate_succ, List.set_cons_zero, List.append_assoc]
  rfl
theorem un_loop {bpp kind : Int} {line above : ByteArray} (hb : 1 ≤ bpp ∧ bpp ≤ 8) (hk : 0 ≤ kind ∧ kind ≤ 4) (hn : line.size ≤ 140737488351232) (ha : above.toList = [] ∨ above.size = line.size) :
    ∀ d i : Nat, i + d = line.size → Ev (fun k => filter_through.l0 k bpp kind 1 line above (unL bpp kind line above i ++ List.replicate d 0) line.size (i : Int)) (strOfNums (unL bpp kind line above line.size), 0) := by
  intro d
  induction d with
  | zero =>
    intro i hi
    have : i = line.size := by omega
    subst this
    refine Ev.step (f := fun _ => some (strOfNums (unL bpp kind line above line.size), 0)) (fun k => ?_) (Ev.now _)
    simp only [filter_through.l0]
    rw [if_neg (by omega), List.replicate_zero, List.append_nil]
  | succ d ih =>
    intro i hi
    refine round_ev hb hk (.inr rfl) hn ha (by simp [unL_length]; omega) (byt_pad (unL_byt _ _ _ _ _) _) (by omega) ?_
    have nx := ih (i + 1) (by omega)
    have e : (unL bpp kind line above i ++ List.replicate (d + 1) 0).set i ((bt line i + 1 * pred kind (if (i : Int) ≥ bpp then (if (1 : Int) > 0 then rd (unL bpp kind line above i ++ List.replicate (d + 1) 0) (i - bpp) else bt line (i - bpp)) else 0) (bt above i) (lft above bpp i)) % 256) = unL bpp kind line above (i + 1) ++ List.replicate d 0 := by
      have s1 := snoc_set (unL bpp kind line above i) ((bt line i + 1 * pred kind (if (i : Int) ≥ bpp then (if (1 : Int) > 0 then rd (unL bpp kind line above i ++ List.replicate (d + 1) 0) (i - bpp) else bt line (i - bpp)) else 0) (bt above i) (lft above bpp i)) % 256) d
      rw [unL_length] at s1
      rw [s1]
      conv => rhs; unfold unL
      rw [Int.one_mul, if_pos (show (1 : Int) > 0 by decide)]
      by_cases h1 : (i : Int) ≥ bpp
      · rw [if_pos h1, if_pos h1, rd_pad (by rw [unL_length]; omega)]
      · rw [if_neg h1, if_neg h1]
    rw [e]
    exact nx
theorem Undo_ev {bpp kind : Int} {line above : ByteArray} (hn : line.size ≤ 140737488351232) :
    Ev (fun k => filter_Undo.f k bpp kind line above) (if wrg bpp kind line above = 0 then (strOfNums (unL bpp kind line above line.size), 0) else ((⟨#[]⟩ : ByteArray), wrg bpp kind line above)) := by
  unfold filter_Undo.f
  refine ev_id (g := fun k => filter_through.f k bpp kind 1 line above) ?_
  unfold filter_through.f
  refine Ev.bind (wrong_ev bpp kind line above) ?_
  by_cases h0 : wrg bpp kind line above = 0
  · rw [if_pos h0]
    simp only [h0, if_true]
    have h1 : (0 : Int) ≤ (line.size : Int) := by omega
    have h2 : line.size ≤ 281474976710656 := by omega
    simp only [Int.toNat_natCast, h1, h2, if_true, Option.bind_some, List.length_replicate]
    obtain ⟨hb, hk, ha⟩ := wrg_zero h0
    have := un_loop hb hk hn ha line.size 0 (by omega)
    simpa [unL] using this
  · rw [if_neg h0]
    simp only [h0, if_false]
    exact Ev.now _
theorem run_loop {bpp kind : Int} {line above : ByteArray} (hb : 1 ≤ bpp ∧ bpp ≤ 8) (hk : 0 ≤ kind ∧ kind ≤ 4) (hn : line.size ≤ 140737488351232) :
    ∀ d i : Nat, i + d = line.size → Ev (fun k => vitrineref09_Undo.l0 k bpp kind line above (unL bpp kind line above i) (i : Int)) (strOfNums (unL bpp kind line above line.size), 0) := by
  intro d
  induction d with
  | zero =>
    intro i hi
    have : i = line.size := by omega
    subst this
    refine Ev.step (f := fun _ => some (strOfNums (unL bpp kind line above line.size), 0)) (fun k => ?_) (Ev.now _)
    simp only [vitrineref09_Undo.l0]
    rw [if_neg (by omega)]
  | succ d ih =>
    intro i hi
    have w1 : wrap64 ((i : Int) + 1) = ((i + 1 : Nat) : Int) := by rw [w64 (by omega) (by omega)]; rfl
    have w2 : wrap64 ((i : Int) - bpp) = (i : Int) - bpp := w64 (by omega) (by omega)
    have wr : ∀ j, wrap64 (rd (unL bpp kind line above i) j) = rd (unL bpp kind line above i) j := fun j => by have := byt_rd (unL_byt bpp kind line above i) j; exact w64 (by omega) (by omega)
    have c1 : (i : Int) < (line.size : Int) := by omega
    have c2 : (0 : Int) ≤ (i : Int) := by omega
    have c3 : ¬ (i : Int) < 0 := by omega
    have c4 : (unL bpp kind line above i).length < 140737488355328 := by rw [unL_length]; omega
    have nx := ih (i + 1) (by omega)
    rw [show unL bpp kind line above (i + 1) = unL bpp kind line above i ++ [(bt line i + pred kind (if (i : Int) ≥ bpp then rd (unL bpp kind line above i) (i - bpp) else 0) (bt above i) (lft above bpp i)) % 256] from rfl] at nx
    have hl := bt_range line i
    have hA : ∀ A C : Int, (0 ≤ A ∧ A ≤ 255) → (0 ≤ C ∧ C ≤ 255) → A = (if (i : Int) ≥ bpp then rd (unL bpp kind line above i) (i - bpp) else 0) → C = lft above bpp i →
        Ev (fun k => (vitrineref09_tells.f k kind A (bt above i) C).bind fun t => if (unL bpp kind line above i).length < 140737488355328 then vitrineref09_Undo.l0 k bpp kind line above (unL bpp kind line above i ++ [wrap64 (wrap64 (bt line i) + t) % 256]) (wrap64 ((i : Int) + 1)) else none) (strOfNums (unL bpp kind line above line.size), 0) := by
      intro A C hA hC eA eC
      refine Ev.bind (tells_ev hk hA (bt_range above i) hC) ?_
      have hp := pred_range (kind := kind) hA (bt_range above i) hC
      refine Ev.congr (fun k => ?_) nx
      rw [if_pos c4, w1, w64_bt, w64 (x := bt line i + _) (by omega) (by omega), eA, eC]
    by_cases h1 : (i : Int) ≥ bpp
    · have c5 : ¬ (i : Int) - bpp < 0 := by omega
      have c6 : (0 : Int) ≤ (i : Int) - bpp := by omega
      have c7 : (i : Int) - bpp < ((unL bpp kind line above i).length : Int) := by rw [unL_length]; omega
      refine Ev.step (fun k => ?_) (hA (rd (unL bpp kind line above i) (i - bpp)) (bt above (i - bpp)) (byt_rd (unL_byt _ _ _ _ _) _) (bt_range _ _) (by rw [if_pos h1]) (by unfold lft; rw [if_pos h1]))
      simp only [vitrineref09_Undo.l0, c1, c2, c3, c5, c6, c7, h1, w2, wr, at_f, Option.bind_some, if_true, if_false]
    · have c5 : (i : Int) - bpp < 0 := by omega
      refine Ev.step (fun k => ?_) (hA 0 0 (by omega) (by omega) (by rw [if_neg h1]) (by unfold lft; rw [if_neg h1]))
      simp only [vitrineref09_Undo.l0, c1, c2, c3, c5, h1, w2, at_f, Option.bind_some, if_true, if_false]
theorem rUndo_ev {bpp kind : Int} {line above : ByteArray} (hn : line.size ≤ 140737488351232) :
    Ev (fun k => vitrineref09_Undo.f k bpp kind line above) (if wrg bpp kind line above = 0 then (strOfNums (unL bpp kind line above line.size), 0) else ((⟨#[]⟩ : ByteArray), wrg bpp kind line above)) := by
  unfold vitrineref09_Undo.f
  refine Ev.bind (rwrong_ev bpp kind line above) ?_
  by_cases h0 : wrg bpp kind line above = 0
  · rw [if_pos h0]
    simp only [h0, if_true]
    obtain ⟨hb, hk, _⟩ := wrg_zero h0
    have := run_loop (above := above) hb hk hn line.size 0 (by omega)
    simpa [unL] using this
  · rw [if_neg h0]
    simp only [h0, if_false]
    exact Ev.now _
/-- What a line costs, byte by byte. -/
def cst (s : ByteArray) : Nat → Int
  | 0 => 0
  | i + 1 => cst s i + (if bt s i > 128 then 256 - bt s i else bt s i)
theorem cst_range (s : ByteArray) (i : Nat) : 0 ≤ cst s i ∧ cst s i ≤ 128 * i := by
  induction i with
  | zero => simp [cst]
  | succ i ih =>
    have := bt_range s i
    unfold cst
    split <;> omega
theorem cst_zero {s : ByteArray} {n : Nat} (h : cst s n ≤ 0) : ∀ i : Nat, i < n → bt s i = 0 := by
  induction n with
  | zero => intro i hi; omega
  | succ n ih =>
    intro i hi
    have h1 := cst_range s n
    have h2 := bt_range s n
    unfold cst at h
    have h3 : bt s n = 0 := by split at h <;> omega
    by_cases e : i = n
    · subst e; exact h3
    · exact ih (by split at h <;> omega) i (by omega)
theorem cst_of_zero {s : ByteArray} {n : Nat} (h : ∀ i : Nat, i < n → bt s i = 0) : cst s n = 0 := by
  induction n with
  | zero => rfl
  | succ n ih =>
    unfold cst
    rw [ih (fun i hi => h i (by omega)), h n (by omega)]
    rfl
/-- The first of the kinds up to n that costs least. -/
def pick (c : Nat → Int) : Nat → Nat × Int
  | 0 => (0, c 0)
  | n + 1 => if c (n + 1) < (pick c n).2 then (n + 1, c (n + 1)) else pick c n
theorem pick_spec (c : Nat → Int) (n : Nat) : (pick c n).1 ≤ n ∧ (pick c n).2 = c (pick c n).1 ∧ ∀ j, j ≤ n → (pick c n).2 ≤ c j := by
  induction n with
  | zero => exact ⟨Nat.le_refl _, rfl, fun j hj => by have : j = 0 := by omega
                                                      subst this; exact Int.le_refl _⟩
  | succ n ih =>
    obtain ⟨h1, h2, h3⟩ := ih
    unfold pick
    split
    · rename_i hc
      refine ⟨Nat.le_refl _, rfl, fun j hj => ?_⟩
      by_cases e : j = n + 1
      · subst e; exact Int.le_refl _
      · have := h3 j (by omega); show c (n + 1) ≤ c j; omega
    · rename_i hc
      refine ⟨by omega, h2, fun j hj => ?_⟩
      by_cases e : j = n + 1
      · subst e; omega
      · exact h3 j (by omega)
theorem pick_two {c : Nat → Int} (h0 : ∀ j, 0 ≤ c j) (h2 : c 2 = 0) (d : Nat) : (pick c (2 + d)).1 ≤ 2 ∧ (pick c (2 + d)).2 = 0 := by
  induction d with
  | zero =>
    obtain ⟨h1, h3, h4⟩ := pick_spec c 2
    have h5 := h4 2 (Nat.le_refl _)
    have h6 := h0 (pick c 2).1
    exact ⟨h1, by show (pick c 2).2 = 0; omega⟩
  | succ d ih =>
    have h6 := h0 (2 + d + 1)
    show (pick c (2 + d + 1)).1 ≤ 2 ∧ (pick c (2 + d + 1)).2 = 0
    unfold pick
    rw [if_neg (by omega)]
    exact ih
theorem wrg_kind {bpp kind kind' : Int} {line above : ByteArray} (h : wrg bpp kind line above = 0) (hk : 0 ≤ kind' ∧ kind' ≤ 4) : wrg bpp kind' line above = 0 := by
  obtain ⟨hb, _, ha⟩ := wrg_zero h
  unfold wrg
  rw [if_neg, if_neg (by omega)]
  rintro (h | h | ⟨h, h'⟩)
  · omega
  · omega
  · rcases ha with ha | ha
    · exact h ha
    · exact h' ha
theorem wrg_arg {bpp : Int} {line above : ByteArray} (h : wrg bpp 0 line above ≠ 0) {kind : Int} : wrg bpp 0 line above = 1 ∧ wrg bpp kind line above = 1 := by
  unfold wrg at h ⊢
  by_cases h1 : bpp < 1 ∨ bpp > 8 ∨ (above.toList ≠ [] ∧ above.size ≠ line.size)
  · rw [if_pos h1, if_pos h1]; exact ⟨rfl, rfl⟩
  · rw [if_neg h1, if_neg (by omega)] at h; exact absurd rfl h
/-- The cost of the line filtered by a kind. -/
def cstOf (bpp : Int) (line above : ByteArray) (j : Nat) : Int := cst (strOfNums (doL bpp j line above)) line.size
theorem doL_length (bpp kind : Int) (line above : ByteArray) : (doL bpp kind line above).length = line.size := by simp [doL]
theorem doL_byt (bpp kind : Int) (line above : ByteArray) : Byt (doL bpp kind line above) := byt_map (doAt_range _ _ _ _)
theorem cost_loop {bpp best least kind : Int} {line above s : ByteArray} {r : Int × Int} (hs : s.size ≤ 140737488351232)
    (h : Ev (fun k => if least < 0 then filter_Pick.l0 k bpp line above kind (cst s s.size) (wrap64 (kind + 1)) else if cst s s.size < least then filter_Pick.l0 k bpp line above kind (cst s s.size) (wrap64 (kind + 1)) else filter_Pick.l0 k bpp line above best least (wrap64 (kind + 1))) r) :
    ∀ d i : Nat, i + d = s.size → Ev (fun k => filter_Pick.l1 k bpp line above best least kind s (cst s i) kind s.size (i : Int)) r := by
  intro d
  induction d with
  | zero =>
    intro i hi
    have : i = s.size := by omega
    subst this
    refine Ev.step (fun k => ?_) h
    simp only [filter_Pick.l1]
    rw [if_neg (by omega)]
  | succ d ih =>
    intro i hi
    have w1 : wrap64 ((i : Int) + 1) = ((i + 1 : Nat) : Int) := by rw [w64 (by omega) (by omega)]; rfl
    have hb := bt_range s i
    have hc := cst_range s i
    refine Ev.step (fun k => ?_) (ih (i + 1) (by omega))
    simp only [filter_Pick.l1]
    rw [if_pos (by omega), if_pos (by omega), if_pos (by omega), w1, w64_bt, w64 (x := 256 - bt s i) (by omega) (by omega)]
    have e : wrap64 (cst s i + mn (bt s i) (256 - bt s i)) = cst s (i + 1) := by
      conv => rhs; unfold cst
      unfold mn
      split
      · rw [if_pos (by omega), w64 (by omega) (by omega)]
      · rw [if_neg (by omega), w64 (by omega) (by omega)]
    rw [e]
theorem pick_loop {bpp : Int} {line above : ByteArray} (hn : line.size ≤ 140737488351232) (h0 : wrg bpp 0 line above = 0) :
    ∀ d j : Nat, 1 ≤ j → j + d = 5 → Ev (fun k => filter_Pick.l0 k bpp line above ((pick (cstOf bpp line above) (j - 1)).1 : Int) (pick (cstOf bpp line above) (j - 1)).2 (j : Int)) (((pick (cstOf bpp line above) 4).1 : Int), 0) := by
  intro d
  induction d with
  | zero =>
    intro j hj hd
    have : j = 5 := by omega
    subst this
    refine Ev.step (f := fun _ => some (((pick (cstOf bpp line above) 4).1 : Int), 0)) (fun k => ?_) (Ev.now _)
    simp only [filter_Pick.l0]
    rw [if_neg (by omega)]
  | succ d ih =>
    intro j hj hd
    have w1 : wrap64 ((j : Int) + 1) = ((j + 1 : Nat) : Int) := by rw [w64 (by omega) (by omega)]; rfl
    have hk := wrg_kind (kind' := j) h0 (by omega)
    have hdo := Do_ev (bpp := bpp) (kind := j) (above := above) hn
    rw [if_pos hk] at hdo
    have hsz : (strOfNums (doL bpp j line above)).size = line.size := by rw [strOfNums_size, doL_length]
    have nx := ih (j + 1) (by omega) (by omega)
    obtain ⟨_, hp2, _⟩ := pick_spec (cstOf bpp line above) (j - 1)
    have hpos := cst_range (strOfNums (doL bpp ((pick (cstOf bpp line above) (j - 1)).1 : Nat) line above)) line.size
    have hp3 : 0 ≤ (pick (cstOf bpp line above) (j - 1)).2 := by rw [hp2]; exact hpos.1
    have lp := cost_loop (bpp := bpp) (best := ((pick (cstOf bpp line above) (j - 1)).1 : Int)) (least := (pick (cstOf bpp line above) (j - 1)).2) (kind := j) (line := line) (above := above) (s := strOfNums (doL bpp j line above)) (r := (((pick (cstOf bpp line above) 4).1 : Int), 0)) (by rw [hsz]; exact hn) (by
      refine Ev.congr (fun k => ?_) nx
      rw [if_neg (by omega), hsz, w1]
      have e : pick (cstOf bpp line above) (j + 1 - 1) = if cstOf bpp line above j < (pick (cstOf bpp line above) (j - 1)).2 then (j, cstOf bpp line above j) else pick (cstOf bpp line above) (j - 1) := by
        obtain ⟨m, rfl⟩ : ∃ m, j = m + 1 := ⟨j - 1, by omega⟩
        rfl
      rw [e]
      by_cases hc : cstOf bpp line above j < (pick (cstOf bpp line above) (j - 1)).2
      · rw [if_pos hc]; exact if_pos hc
      · rw [if_neg hc]; exact if_neg hc) line.size 0 (by rw [hsz]; omega)
    refine Ev.step (f := fun k => (filter_Do.f k bpp j line above).bind fun b => if b.2 = 0 then filter_Pick.l1 k bpp line above ((pick (cstOf bpp line above) (j - 1)).1 : Int) (pick (cstOf bpp line above) (j - 1)).2 j b.1 0 j (b.1.size : Int) 0 else some (0, b.2)) (fun k => ?_) (Ev.bind hdo ?_)
    · simp only [filter_Pick.l0]
      rw [if_pos (by omega)]
    · simp only [if_true]
      exact lp
theorem Pick_ev {bpp : Int} {line above : ByteArray} (hn : line.size ≤ 140737488351232) :
    Ev (fun k => filter_Pick.f k bpp line above) (if wrg bpp 0 line above = 0 then (((pick (cstOf bpp line above) 4).1 : Int), 0) else (0, wrg bpp 0 line above)) := by
  unfold filter_Pick.f
  have hdo := Do_ev (bpp := bpp) (kind := 0) (above := above) hn
  by_cases h0 : wrg bpp 0 line above = 0
  · rw [if_pos h0]
    rw [if_pos h0] at hdo
    have hsz : (strOfNums (doL bpp 0 line above)).size = line.size := by rw [strOfNums_size, doL_length]
    have nx := pick_loop hn h0 4 1 (by omega) (by omega)
    have lp := cost_loop (bpp := bpp) (best := 0) (least := -1) (kind := 0) (line := line) (above := above) (s := strOfNums (doL bpp 0 line above)) (r := (((pick (cstOf bpp line above) 4).1 : Int), 0)) (by rw [hsz]; exact hn) (by
      refine Ev.congr (fun k => ?_) nx
      rw [if_pos (by omega), hsz, show wrap64 (0 + 1) = ((1 : Nat) : Int) from w64 (by omega) (by omega)]
      rfl) line.size 0 (by rw [hsz]; omega)
    refine Ev.step (f := fun k => (filter_Do.f k bpp 0 line above).bind fun b => if b.2 = 0 then filter_Pick.l1 k bpp line above 0 (-1) 0 b.1 0 0 (b.1.size : Int) 0 else some (0, b.2)) (fun k => ?_) (Ev.bind hdo ?_)
    · simp only [filter_Pick.l0]
      rw [if_pos (by omega)]
    · simp only [if_true]
      exact lp
  · rw [if_neg h0]
    rw [if_neg h0] at hdo
    refine Ev.step (f := fun k => (filter_Do.f k bpp 0 line above).bind fun b => if b.2 = 0 then filter_Pick.l1 k bpp line above 0 (-1) 0 b.1 0 0 (b.1.size : Int) 0 else some (0, b.2)) (fun k => ?_) (Ev.bind hdo ?_)
    · simp only [filter_Pick.l0]
      rw [if_pos (by omega)]
    · simp only [h0, if_false]
      exact Ev.now _
theorem rcost_loop {bpp best least kind : Int} {line above s : ByteArray} {r : Int × Int} (hs : s.size ≤ 140737488351232)
    (h : Ev (fun k => if kind = 0 then vitrineref09_Pick.l0 k bpp line above kind (cst s s.size) (wrap64 (kind + 1)) else if cst s s.size < least then vitrineref09_Pick.l0 k bpp line above kind (cst s s.size) (wrap64 (kind + 1)) else vitrineref09_Pick.l0 k bpp line above best least (wrap64 (kind + 1))) r) :
    ∀ d i : Nat, i + d = s.size → Ev (fun k => vitrineref09_Pick.l1 k bpp line above best least kind s (cst s i) (i : Int)) r := by
  intro d
  induction d with
  | zero =>
    intro i hi
    have : i = s.size := by omega
    subst this
    refine Ev.step (fun k => ?_) h
    simp only [vitrineref09_Pick.l1]
    rw [if_neg (by omega)]
  | succ d ih =>
    intro i hi
    have w1 : wrap64 ((i : Int) + 1) = ((i + 1 : Nat) : Int) := by rw [w64 (by omega) (by omega)]; rfl
    have hb := bt_range s i
    have hc := cst_range s i
    refine Ev.step (fun k => ?_) (ih (i + 1) (by omega))
    simp only [vitrineref09_Pick.l1]
    rw [if_pos (by omega), if_pos (by omega), w1, w64_bt, w64 (x := 256 - bt s i) (by omega) (by omega)]
    by_cases h1 : bt s i > 128
    · have e : wrap64 (cst s i + (256 - bt s i)) = cst s (i + 1) := by
        conv => rhs; unfold cst
        rw [if_pos h1, w64 (by omega) (by omega)]
      rw [if_pos h1, e]
    · have e : wrap64 (cst s i + bt s i) = cst s (i + 1) := by
        conv => rhs; unfold cst
        rw [if_neg h1, w64 (by omega) (by omega)]
      rw [if_neg h1, e]
theorem rpick_loop {bpp : Int} {line above : ByteArray} (hn : line.size ≤ 140737488351232) (h0 : wrg bpp 0 line above = 0) :
    ∀ d j : Nat, 1 ≤ j → j + d = 5 → Ev (fun k => vitrineref09_Pick.l0 k bpp line above ((pick (cstOf bpp line above) (j - 1)).1 : Int) (pick (cstOf bpp line above) (j - 1)).2 (j : Int)) (((pick (cstOf bpp line above) 4).1 : Int), 0) := by
  intro d
  induction d with
  | zero =>
    intro j hj hd
    have : j = 5 := by omega
    subst this
    refine Ev.step (f := fun _ => some (((pick (cstOf bpp line above) 4).1 : Int), 0)) (fun k => ?_) (Ev.now _)
    simp only [vitrineref09_Pick.l0]
    rw [if_neg (by omega)]
  | succ d ih =>
    intro j hj hd
    have w1 : wrap64 ((j : Int) + 1) = ((j + 1 : Nat) : Int) := by rw [w64 (by omega) (by omega)]; rfl
    have hk := wrg_kind (kind' := j) h0 (by omega)
    have hdo := rDo_ev (bpp := bpp) (kind := j) (above := above) hn
    rw [if_pos hk] at hdo
    have hsz : (strOfNums (doL bpp j line above)).size = line.size := by rw [strOfNums_size, doL_length]
    have nx := ih (j + 1) (by omega) (by omega)
    have lp := rcost_loop (bpp := bpp) (best := ((pick (cstOf bpp line above) (j - 1)).1 : Int)) (least := (pick (cstOf bpp line above) (j - 1)).2) (kind := j) (line := line) (above := above) (s := strOfNums (doL bpp j line above)) (r := (((pick (cstOf bpp line above) 4).1 : Int), 0)) (by rw [hsz]; exact hn) (by
      refine Ev.congr (fun k => ?_) nx
      rw [if_neg (by omega), hsz, w1]
      have e : pick (cstOf bpp line above) (j + 1 - 1) = if cstOf bpp line above j < (pick (cstOf bpp line above) (j - 1)).2 then (j, cstOf bpp line above j) else pick (cstOf bpp line above) (j - 1) := by
        obtain ⟨m, rfl⟩ : ∃ m, j = m + 1 := ⟨j - 1, by omega⟩
        rfl
      rw [e]
      by_cases hc : cstOf bpp line above j < (pick (cstOf bpp line above) (j - 1)).2
      · rw [if_pos hc]; exact if_pos hc
      · rw [if_neg hc]; exact if_neg hc) line.size 0 (by rw [hsz]; omega)
    refine Ev.step (f := fun k => (vitrineref09_Do.f k bpp j line above).bind fun b => if b.2 = 0 then vitrineref09_Pick.l1 k bpp line above ((pick (cstOf bpp line above) (j - 1)).1 : Int) (pick (cstOf bpp line above) (j - 1)).2 j b.1 0 0 else some (0, b.2)) (fun k => ?_) (Ev.bind hdo ?_)
    · simp only [vitrineref09_Pick.l0]
      rw [if_pos (by omega)]
    · simp only [if_true]
      exact lp
theorem rPick_ev {bpp : Int} {line above : ByteArray} (hn : line.size ≤ 140737488351232) :
    Ev (fun k => vitrineref09_Pick.f k bpp line above) (if wrg bpp 0 line above = 0 then (((pick (cstOf bpp line above) 4).1 : Int), 0) else (0, wrg bpp 0 line above)) := by
  unfold vitrineref09_Pick.f
  have hdo := rDo_ev (bpp := bpp) (kind := 0) (above := above) hn
  by_cases h0 : wrg bpp 0 line above = 0
  · rw [if_pos h0]
    rw [if_pos h0] at hdo
    have hsz : (strOfNums (doL bpp 0 line above)).size = line.size := by rw [strOfNums_size, doL_length]
    have nx := rpick_loop hn h0 4 1 (by omega) (by omega)
    have lp := rcost_loop (bpp := bpp) (best := 0) (least := 0) (kind := 0) (line := line) (above := above) (s := strOfNums (doL bpp 0 line above)) (r := (((pick (cstOf bpp line above) 4).1 : Int), 0)) (by rw [hsz]; exact hn) (by
      refine Ev.congr (fun k => ?_) nx
      rw [if_pos rfl, hsz, show wrap64 (0 + 1) = ((1 : Nat) : Int) from w64 (by omega) (by omega)]
      rfl) line.size 0 (by rw [hsz]; omega)
    refine Ev.step (f := fun k => (vitrineref09_Do.f k bpp 0 line above).bind fun b => if b.2 = 0 then vitrineref09_Pick.l1 k bpp line above 0 0 0 b.1 0 0 else some (0, b.2)) (fun k => ?_) (Ev.bind hdo ?_)
    · simp only [vitrineref09_Pick.l0]
      rw [if_pos (by omega)]
    · simp only [if_true]
      exact lp
  · rw [if_neg h0]
    rw [if_neg h0] at hdo
    refine Ev.step (f := fun k => (vitrineref09_Do.f k bpp 0 line above).bind fun b => if b.2 = 0 then vitrineref09_Pick.l1 k bpp line above 0 0 0 b.1 0 0 else some (0, b.2)) (fun k => ?_) (Ev.bind hdo ?_)
    · simp only [vitrineref09_Pick.l0]
      rw [if_pos (by omega)]
    · simp only [h0, if_false]
      exact Ev.now _

end Go.Proofs.Ytaomopibnehanaa.Pure
