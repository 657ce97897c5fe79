/- Layer 10 (lace), plain: which passes an image has, how many bytes a row and an image has, by the program and by the document's answer. Conditions: whole numbers of 64 bits. -/
import Derived.Test.YtlonbchidopcpaaPL10x5
import Derived.Test.YtlonbchidopcpaaPL10x7
import Derived.Test.YtlonbchidopcpaaPL10x8
import Derived.Test.YtlonbchidopcpaaPL10x9
import Derived.Test.YtlonbchidopcpaaPL10x10
import Derived.Test.YtlonbchidopcpaaPL10x13
import Derived.Test.YtlonbchidopcpaaPL10x14
import Derived.Test.YtlonbchidopcpaaPL10x15
import Derived.Test.YtlonbchidopcpaaPureRgt
import Derived.Test.YtlonbchidopcpaaPureSmp
namespace Go.Proofs.Ytlonbchidopcpaa.Pure
open Go.RowKit Go.Proofs.YtlonbchidopcpaaW.PrintWords Go.Proofs.YtlonbchidopcpaaW.PrintLast Go.Proofs.YtlonbchidopcpaaW.PrintMore Go.Proofs.Ytlonbchidopcpaa.PL10
set_option linter.unusedVariables false
set_option linter.unusedSimpArgs false
theorem w_succ {i : Nat} (h : i ≤ 4611686018427387904) : wrap64 ((i : Int) + 1) = ((i + 1 : Nat) : Int) := by rw [w64 (by omega) (by omega)]; omega
def stp (s : Int) : Prop := s = 1 ∨ s = 2 ∨ s = 4 ∨ s = 8
/-- How many places there are from f on, below n. -/
def cnt (n f s : Int) : Int := if n ≤ f then 0 else (n - f + s - 1) / s
theorem cnt_range {n f s : Int} (hs : stp s) (h0 : 0 ≤ f) (h1 : 1 ≤ n) : 0 ≤ cnt n f s ∧ cnt n f s ≤ n := by
  unfold cnt
  split
  · omega
  · rcases hs with rfl | rfl | rfl | rfl <;> omega
theorem lace_cnt_eq {n f s : Int} (hs : stp s) (h0 : 0 ≤ f) (h1 : f < s) (h2 : 1 ≤ n) (h3 : n ≤ 1024) : lace_cnt n f s = cnt n f s := by
  have hb : 1 ≤ s ∧ s ≤ 8 := by rcases hs with rfl | rfl | rfl | rfl <;> omega
  unfold lace_cnt cnt mx
  rw [w64 (x := n - f) (by omega) (by omega), w64 (x := n - f + s) (by omega) (by omega), w64 (x := n - f + s - 1) (by omega) (by omega), Int.tdiv_eq_ediv_of_nonneg (by omega)]
  have hq : 0 ≤ (n - f + s - 1) / s ∧ (n - f + s - 1) / s ≤ 1040 := by rcases hs with rfl | rfl | rfl | rfl <;> omega
  rw [w64 (by omega) (by omega)]
  by_cases hc : n ≤ f
  · rw [if_pos hc]
    rcases hs with rfl | rfl | rfl | rfl <;> split <;> omega
  · rw [if_neg hc]
    split <;> omega
theorem many_loop {n s : Int} (hs : stp s) (hn : n ≤ 1024) : ∀ (d : Nat) (acc i : Int), 0 ≤ i → i ≤ 1032 → n - i ≤ d → 0 ≤ acc → acc ≤ 4096 - d → d ≤ 2048 → Ev (fun k => vitrineref10_many.l0 k n s acc i) (acc + cnt n i s) := by
  intro d
  induction d with
  | zero =>
    intro acc i h0 h1 h2 _ _ _
    refine Ev.step (f := fun _ => some (acc + cnt n i s)) (fun k => ?_) (Ev.now _)
    simp only [vitrineref10_many.l0]
    rw [if_neg (by omega), cnt, if_pos (by omega), Int.add_zero]
  | succ d ih =>
    intro acc i h0 h1 h2 h3 h4 h5
    by_cases h : i < n
    · have hb : 1 ≤ s ∧ s ≤ 8 := by rcases hs with rfl | rfl | rfl | rfl <;> omega
      have e : acc + 1 + cnt n (i + s) s = acc + cnt n i s := by
        unfold cnt
        rw [if_neg (by omega : ¬ n ≤ i)]
        rcases hs with rfl | rfl | rfl | rfl <;> split <;> omega
      refine Ev.step (fun k => ?_) (ev_same (ih (acc + 1) (i + s) (by omega) (by omega) (by omega) (by omega) (by omega) (by omega)) e)
      simp only [vitrineref10_many.l0]
      rw [if_pos h, w64 (by omega) (by omega), w64 (by omega) (by omega)]
    · refine Ev.step (f := fun _ => some (acc + cnt n i s)) (fun k => ?_) (Ev.now _)
      simp only [vitrineref10_many.l0]
      rw [if_neg h, cnt, if_pos (by omega), Int.add_zero]
theorem many_ev {n f s : Int} (hs : stp s) (hn : n ≤ 1024) (h1 : 1 ≤ n) (h0 : 0 ≤ f) (h2 : f < s) : Ev (fun k => vitrineref10_many.f k n f s) (cnt n f s) := by
  have hb : 1 ≤ s ∧ s ≤ 8 := by rcases hs with rfl | rfl | rfl | rfl <;> omega
  unfold vitrineref10_many.f
  exact ev_same (many_loop hs hn 1024 0 f h0 (by omega) (by omega) (by omega) (by omega) (by omega)) (by omega)
/-- A row of the table of passes that may be. -/
def tabOk (p : S34) : Prop := 0 ≤ p.f0 ∧ p.f0 < p.f2 ∧ stp p.f2 ∧ 0 ≤ p.f1 ∧ p.f1 < p.f3 ∧ stp p.f3
def refone (W H : Int) (p : S34) : List (S34) := if cnt W p.f0 p.f2 > 0 ∧ cnt H p.f1 p.f3 > 0 then [⟨p.f0, p.f1, p.f2, p.f3, cnt W p.f0 p.f2, cnt H p.f1 p.f3⟩] else []
theorem refone_len (W H : Int) (p : S34) : (refone W H p).length ≤ 1 := by unfold refone; split <;> simp
theorem flat_len (W H : Int) (l : List (S34)) : (l.flatMap (refone W H)).length ≤ l.length := by
  induction l with
  | nil => simp
  | cons x xs ih =>
    rw [List.flatMap_cons, List.length_append, List.length_cons]
    have := refone_len W H x
    omega
theorem rd_at (l : List (S34)) (i : Nat) (h : i < l.length) : rd_T34 l (i : Int) = l[i] := by
  unfold rd_T34
  rw [List.getD_eq_getElem?_getD, Int.toNat_natCast, List.getElem?_eq_getElem h]
  rfl
theorem rpasses_loop {W H D C L : Int} (hW : 1 ≤ W) (hW2 : W ≤ 1024) (hH : 1 ≤ H) (hH2 : H ≤ 1024) (tab : List (S34)) (ht : ∀ p ∈ tab, tabOk p) (hl : tab.length ≤ 7) : ∀ (d i : Nat) (out : List (S34)), i + d = tab.length → out.length ≤ i → Ev (fun k => vitrineref10_Passes.l0 k tab out (i : Int) W H D C L) (out ++ (tab.drop i).flatMap (refone W H)) := by
  intro d
  induction d with
  | zero =>
    intro i out hi ho
    rw [List.drop_of_length_le (by omega), List.flatMap_nil, List.append_nil]
    refine Ev.step (f := fun _ => some out) (fun k => ?_) (Ev.now _)
    simp only [vitrineref10_Passes.l0]
    rw [if_neg (by omega)]
  | succ d ih =>
    intro i out hi ho
    have hlt : i < tab.length := by omega
    obtain ⟨a0, a1, a2, a3, a4, a5⟩ := ht _ (List.getElem_mem hlt)
    have hr := rd_at tab i hlt
    have hw := w_succ (i := i) (by omega)
    rw [List.drop_eq_getElem_cons hlt, List.flatMap_cons]
    have m1 := many_ev (n := W) a2 hW2 hW a0 a1
    have m2 := many_ev (n := H) a5 hH2 hH a3 a4
    generalize tab[i] = p at *
    refine Ev.step (f := fun k => ((vitrineref10_many.f k W p.f0 p.f2).bind fun t133 => ((vitrineref10_many.f k H p.f1 p.f3).bind fun t134 => (if t133 > 0 then (if t134 > 0 then (if out.length < 2932031007402 then (vitrineref10_Passes.l0 k tab (out ++ [(⟨p.f0, p.f1, p.f2, p.f3, t133, t134⟩ : S34)]) ((i + 1 : Nat) : Int) W H D C L) else (none)) else (vitrineref10_Passes.l0 k tab out ((i + 1 : Nat) : Int) W H D C L)) else (vitrineref10_Passes.l0 k tab out ((i + 1 : Nat) : Int) W H D C L))))) (fun k => ?_) ?_
    · simp only [vitrineref10_Passes.l0]
      rw [if_pos (by omega), if_pos (by omega), hr, hw]
    · refine Ev.bind m1 (Ev.bind m2 ?_)
      unfold refone
      by_cases c1 : cnt W p.f0 p.f2 > 0
      · simp only [if_pos c1]
        by_cases c2 : cnt H p.f1 p.f3 > 0
        · simp only [if_pos c2]
          simp only [if_pos (show out.length < 2932031007402 by omega), if_pos (And.intro c1 c2)]
          have := ih (i + 1) (out ++ [(⟨p.f0, p.f1, p.f2, p.f3, cnt W p.f0 p.f2, cnt H p.f1 p.f3⟩ : S34)]) (by omega) (by simp; omega)
          rw [List.append_assoc] at this
          exact this
        · simp only [if_neg c2]
          rw [if_neg (fun h => c2 h.2), List.nil_append]
          exact ih (i + 1) out (by omega) (by omega)
      · simp only [if_neg c1]
        rw [if_neg (fun h => c1 h.1), List.nil_append]
        exact ih (i + 1) out (by omega) (by omega)
/-- The passes of an image. -/
def pss (W H D C L : Int) : List (S34) := if rgt W H D C L = 0 then lace_list W H L else []
def tab1 : List (S34) := [⟨0, 0, 1, 1, 0, 0⟩]
def tab7 : List (S34) := [⟨0, 0, 8, 8, 0, 0⟩, ⟨4, 0, 8, 8, 0, 0⟩, ⟨0, 4, 4, 8, 0, 0⟩, ⟨2, 0, 4, 4, 0, 0⟩, ⟨0, 2, 2, 4, 0, 0⟩, ⟨1, 0, 2, 2, 0, 0⟩, ⟨0, 1, 1, 2, 0, 0⟩]
theorem tab1_ok : ∀ p ∈ tab1, tabOk p := by
  intro p hp
  simp only [tab1, List.mem_cons, List.not_mem_nil, or_false] at hp
  subst hp
  unfold tabOk stp
  simp
theorem tab7_ok : ∀ p ∈ tab7, tabOk p := by
  intro p hp
  simp only [tab7, List.mem_cons, List.not_mem_nil, or_false] at hp
  rcases hp with rfl | rfl | rfl | rfl | rfl | rfl | rfl <;> unfold tabOk stp <;> simp
theorem one_eq {W H a b c d : Int} (hW : 1 ≤ W) (hW2 : W ≤ 1024) (hH : 1 ≤ H) (hH2 : H ≤ 1024) (ht : tabOk ⟨a, b, c, d, 0, 0⟩) : lace_one W H (a, b, c, d) = refone W H ⟨a, b, c, d, 0, 0⟩ := by
  obtain ⟨a0, a1, a2, a3, a4, a5⟩ := ht
  unfold lace_one refone
  dsimp only at *
  rw [lace_cnt_eq a2 a0 a1 hW hW2, lace_cnt_eq a5 a3 a4 hH hH2]
  have r1 := cnt_range a2 a0 hW
  have r2 := cnt_range a5 a3 hH
  generalize cnt W a c = x at *
  generalize cnt H b d = y at *
  have hm : 0 ≤ x * y := Int.mul_nonneg r1.1 r2.1
  have hm2 : x * y ≤ 1024 * 1024 := Int.mul_le_mul (by omega) (by omega) r2.1 (by omega)
  rw [w64 (by omega) (by omega)]
  by_cases h1 : x > 0
  · by_cases h2 : y > 0
    · rw [if_pos (show x * y > 0 from Int.mul_pos h1 h2), if_pos ⟨h1, h2⟩]
    · have : y = 0 := by omega
      subst this
      rw [Int.mul_zero, if_neg (by omega), if_neg (by omega)]
  · have : x = 0 := by omega
    subst this
    rw [Int.zero_mul, if_neg (by omega), if_neg (by omega)]
theorem list_eq {W H L : Int} (hW : 1 ≤ W) (hW2 : W ≤ 1024) (hH : 1 ≤ H) (hH2 : H ≤ 1024) (hL : L = 0 ∨ L = 1) : (if L = 1 then tab7 else tab1).flatMap (refone W H) = lace_list W H L := by
  rcases hL with rfl | rfl
  · rw [if_neg (by decide)]
    unfold lace_list
    rw [if_pos rfl]
    have e1 : cnt W 0 1 = W := by unfold cnt; rw [if_neg (by omega)]; omega
    have e2 : cnt H 0 1 = H := by unfold cnt; rw [if_neg (by omega)]; omega
    unfold tab1
    rw [List.flatMap_cons, List.flatMap_nil, List.append_nil]
    unfold refone
    dsimp only
    rw [e1, e2, if_pos (by omega)]
  · rw [if_pos rfl]
    unfold lace_list
    rw [if_neg (by decide)]
    unfold lace_upto lace_tab tab7
    have hm : ∀ p ∈ tab7, tabOk p := tab7_ok
    unfold tab7 at hm
    simp only [List.mem_cons, List.not_mem_nil, or_false, forall_eq_or_imp, forall_eq] at hm
    obtain ⟨t0, t1, t2, t3, t4, t5, t6⟩ := hm
    simp only [List.take_succ_cons, List.take_zero, List.flatMap_cons, List.flatMap_nil]
    rw [one_eq hW hW2 hH hH2 t0, one_eq hW hW2 hH hH2 t1, one_eq hW hW2 hH hH2 t2, one_eq hW hW2 hH hH2 t3, one_eq hW hW2 hH hH2 t4, one_eq hW hW2 hH hH2 t5, one_eq hW hW2 hH hH2 t6]
theorem Passes_ev (W H D C L : Int) (hL : -9223372036854775808 ≤ L ∧ L ≤ 9223372036854775807) : Ev (fun k => lace_Passes.f k W H D C L) (pss W H D C L) := by
  unfold lace_Passes.f
  refine Ev.bind (Right_ev W H D C L hL) ?_
  unfold pss
  by_cases h : rgt W H D C L = 0
  · simp only [if_pos h]; exact Ev.now _
  · simp only [if_neg h]; exact Ev.now _
theorem rPasses_ev (W H D C L : Int) : Ev (fun k => vitrineref10_Passes.f k W H D C L) (pss W H D C L) := by
  unfold vitrineref10_Passes.f
  refine Ev.bind (rRight_ev W H D C L) ?_
  unfold pss
  by_cases h : rgt W H D C L = 0
  · obtain ⟨a0, a1, a2, a3, _, _, a6⟩ := rgt_0 h
    simp only [if_pos h]
    have e := list_eq a0 a1 a2 a3 a6
    have key : ∀ tab : List (S34), (∀ p ∈ tab, tabOk p) → tab.length ≤ 7 → Ev (fun k => vitrineref10_Passes.j0 k tab W H D C L) (tab.flatMap (refone W H)) := by
      intro tab h1 h2
      refine Ev.step (fun k => ?_) (ev_same (rpasses_loop (D := D) (C := C) (L := L) a0 a1 a2 a3 tab h1 h2 tab.length 0 [] (by omega) (by simp)) (by simp))
      simp only [vitrineref10_Passes.j0]
      rfl
    by_cases h1 : L = 1
    · simp only [if_pos h1]
      rw [if_pos h1] at e
      exact ev_same (key tab7 tab7_ok (by simp [tab7])) e
    · simp only [if_neg h1]
      rw [if_neg h1] at e
      exact ev_same (key tab1 tab1_ok (by simp [tab1])) e
  · simp only [if_neg h]; exact Ev.now _
theorem pss_sides {W H D C L : Int} : ∀ p ∈ pss W H D C L, 1 ≤ p.f4 ∧ p.f4 ≤ 1024 ∧ 1 ≤ p.f5 ∧ p.f5 ≤ 1024 := by
  unfold pss
  by_cases h : rgt W H D C L = 0
  · obtain ⟨a0, a1, a2, a3, _, _, a6⟩ := rgt_0 h
    rw [if_pos h, ← list_eq a0 a1 a2 a3 a6]
    intro p hp
    obtain ⟨q, hq, hp⟩ := List.mem_flatMap.1 hp
    have hok : tabOk q := by
      by_cases h1 : L = 1
      · rw [if_pos h1] at hq; exact tab7_ok q hq
      · rw [if_neg h1] at hq; exact tab1_ok q hq
    obtain ⟨b0, b1, b2, b3, b4, b5⟩ := hok
    unfold refone at hp
    split at hp
    · rename_i hc
      have := List.mem_singleton.1 hp
      subst this
      have r1 := cnt_range b2 b0 a0
      have r2 := cnt_range b5 b3 a2
      dsimp only
      omega
    · cases hp
  · rw [if_neg h]; intro p hp; cases hp
theorem pss_len {W H D C L : Int} : (pss W H D C L).length ≤ 7 := by
  unfold pss
  by_cases h : rgt W H D C L = 0
  · obtain ⟨a0, a1, a2, a3, _, _, a6⟩ := rgt_0 h
    rw [if_pos h, ← list_eq a0 a1 a2 a3 a6]
    refine Nat.le_trans (flat_len W H _) ?_
    split <;> simp [tab7, tab1]
  · rw [if_neg h]; simp
theorem pss_nil {W H D C L : Int} (h : rgt W H D C L ≠ 0) : pss W H D C L = [] := if_neg h
/-- How many bytes a row has. -/
def row (W H D C L p : Int) : Int := if rgt W H D C L = 0 ∧ 1 ≤ p ∧ p ≤ 1024 then (D * smp C * p + 7) / 8 else 0
theorem dep_smp {C D : Int} (h : dep C D) : 1 ≤ D * smp C ∧ D * smp C ≤ 64 := by
  unfold dep at h
  unfold smp
  rcases h with ⟨rfl, h⟩ | ⟨rfl, h⟩ | ⟨h1, h⟩
  · rw [if_pos (by omega)]; omega
  · rw [if_pos (by omega)]; omega
  · rcases h1 with rfl | rfl | rfl
    · rw [if_neg (by omega), if_pos rfl]; omega
    · rw [if_neg (by omega), if_neg (by omega), if_pos rfl]; omega
    · rw [if_neg (by omega), if_neg (by omega), if_neg (by omega), if_pos rfl]; omega
theorem row_prod {b p : Int} (h : 1 ≤ b ∧ b ≤ 64) (h1 : 1 ≤ p) (h2 : p ≤ 1024) : 1 ≤ b * p ∧ b * p ≤ 65536 := by
  have h3 : b * p ≤ 64 * 1024 := Int.mul_le_mul h.2 h2 (by omega) (by omega)
  have h4 : 0 < b * p := Int.mul_pos (by omega) (by omega)
  omega
theorem row_range (W H D C L p : Int) : 0 ≤ row W H D C L p ∧ row W H D C L p ≤ 8193 := by
  unfold row
  split
  · rename_i hc
    obtain ⟨h, h1, h2⟩ := hc
    obtain ⟨_, _, _, _, _, hd, _⟩ := rgt_0 h
    have := row_prod (dep_smp hd) h1 h2
    omega
  · omega
theorem Row_ev (W H D C L p : Int) (hL : -9223372036854775808 ≤ L ∧ L ≤ 9223372036854775807) : Ev (fun k => lace_Row.f k W H D C L p) (row W H D C L p) := by
  have ht : ¬ (rgt W H D C L = 0 ∧ 1 ≤ p ∧ p ≤ 1024) → Ev (fun k => lace_Row.j0 k p true W H D C L) (row W H D C L p) := by
    intro hn
    refine Ev.step (f := fun _ => some (row W H D C L p)) (fun k => ?_) (Ev.now _)
    simp only [lace_Row.j0]
    rw [if_pos trivial, row, if_neg hn]
  unfold lace_Row.f
  by_cases h1 : p < 1
  · simp only [if_pos h1]; exact ht (by omega)
  · simp only [if_neg h1]
    by_cases h2 : p > 1024
    · simp only [if_pos h2]; exact ht (by omega)
    · simp only [if_neg h2]
      refine Ev.bind (Right_ev W H D C L hL) ?_
      by_cases h : rgt W H D C L = 0
      · rw [h]
        obtain ⟨_, _, _, _, _, hd, _⟩ := rgt_0 h
        have hb := dep_smp hd
        have hp := row_prod hb (p := p) (by omega) (by omega)
        refine Ev.step (f := fun k => ((head_Samples.f k C).bind fun t144 => (some ((wrap64 ((wrap64 ((wrap64 (D * t144)) * p)) + 7)) / 8)))) (fun k => ?_) (Ev.bind (Samples_ev C) ?_)
        · simp only [lace_Row.j0]
          rw [if_neg (by decide)]
        · refine ev_same (Ev.now _) ?_
          rw [row, if_pos ⟨h, by omega, by omega⟩, w64 (x := D * smp C) (by omega) (by omega), w64 (x := D * smp C * p) (by omega) (by omega), w64 (by omega) (by omega)]
      · rw [show (rgt W H D C L != 0) = true from bne_iff_ne.mpr h]
        exact ht (fun hc => h hc.1)
theorem rRow_ev (W H D C L p : Int) : Ev (fun k => vitrineref10_Row.f k W H D C L p) (row W H D C L p) := by
  have ht : ¬ (rgt W H D C L = 0 ∧ 1 ≤ p ∧ p ≤ 1024) → Ev (fun k => vitrineref10_Row.j0 k p true W H D C L) (row W H D C L p) := by
    intro hn
    refine Ev.step (f := fun _ => some (row W H D C L p)) (fun k => ?_) (Ev.now _)
    simp only [vitrineref10_Row.j0]
    rw [if_pos trivial, row, if_neg hn]
  unfold vitrineref10_Row.f
  refine Ev.bind (rRight_ev W H D C L) ?_
  by_cases h : rgt W H D C L = 0
  · simp only [if_pos h]
    by_cases h1 : p < 1
    · simp only [if_pos h1]; exact ht (by omega)
    · simp only [if_neg h1]
      by_cases h2 : p > 1024
      · rw [decide_eq_true h2]; exact ht (by omega)
      · rw [decide_eq_false h2]
        obtain ⟨_, _, _, _, _, hd, _⟩ := rgt_0 h
        have hb := dep_smp hd
        have hp := row_prod hb (p := p) (by omega) (by omega)
        refine Ev.step (f := fun k => ((vitrineref08_Samples.f k C).bind fun t172 => (some (wrap64 (Int.tdiv (wrap64 ((wrap64 ((wrap64 (D * t172)) * p)) + 7)) 8))))) (fun k => ?_) (Ev.bind (rSamples_ev C) ?_)
        · simp only [vitrineref10_Row.j0]
          rw [if_neg (by decide)]
        · refine ev_same (Ev.now _) ?_
          rw [row, if_pos ⟨h, by omega, by omega⟩, w64 (x := D * smp C) (by omega) (by omega), w64 (x := D * smp C * p) (by omega) (by omega), w64 (x := D * smp C * p + 7) (by omega) (by omega), Int.tdiv_eq_ediv_of_nonneg (by omega), w64 (by omega) (by omega)]
  · simp only [if_neg h]
    exact ht (fun hc => h hc.1)
/-- How many bytes an image has: of the passes from the i-th on. -/
def siz (W H D C L : Int) : List (S34) → Int
  | [] => 0
  | p :: ps => p.f5 * (1 + row W H D C L p.f4) + siz W H D C L ps
theorem siz_step {W H D C L : Int} {p : S34} (h : 1 ≤ p.f5 ∧ p.f5 ≤ 1024) : 0 ≤ p.f5 * row W H D C L p.f4 ∧ p.f5 * row W H D C L p.f4 ≤ 8389632 := by
  have r := row_range W H D C L p.f4
  have h2 : p.f5 * row W H D C L p.f4 ≤ 1024 * 8193 := Int.mul_le_mul h.2 r.2 r.1 (by omega)
  exact ⟨Int.mul_nonneg (by omega) r.1, by omega⟩
theorem size_loop (W H D C L : Int) (hL : -9223372036854775808 ≤ L ∧ L ≤ 9223372036854775807) (l : List (S34)) (hl : l.length ≤ 7) (hs : ∀ p ∈ l, 1 ≤ p.f5 ∧ p.f5 ≤ 1024) : ∀ (d i : Nat) (acc : Int), i + d = l.length → 0 ≤ acc → acc ≤ i * 9000000 → Ev (fun k => lace_Size.l0 k acc l (l.length : Int) (i : Int) W H D C L) (acc + siz W H D C L (l.drop i)) := by
  intro d
  induction d with
  | zero =>
    intro i acc hi h0 h1
    rw [List.drop_of_length_le (by omega), siz, Int.add_zero]
    refine Ev.step (f := fun _ => some acc) (fun k => ?_) (Ev.now _)
    simp only [lace_Size.l0]
    rw [if_neg (by omega)]
  | succ d ih =>
    intro i acc hi h0 h1
    have hlt : i < l.length := by omega
    have hp := hs _ (List.getElem_mem hlt)
    have hr := rd_at l i hlt
    have hw := w_succ (i := i) (by omega)
    rw [List.drop_eq_getElem_cons hlt]
    generalize l[i] = p at *
    have hm := siz_step (W := W) (H := H) (D := D) (C := C) (L := L) hp
    refine Ev.step (f := fun k => ((lace_Row.f k W H D C L p.f4).bind fun t150 => (lace_Size.l0 k (wrap64 (acc + (wrap64 (p.f5 + (wrap64 (p.f5 * t150)))))) l (l.length : Int) ((i + 1 : Nat) : Int) W H D C L))) (fun k => ?_) (Ev.bind (Row_ev W H D C L p.f4 hL) ?_)
    · simp only [lace_Size.l0]
      rw [if_pos (by omega), if_pos (by omega), if_pos (by omega), hr, hw]
    · rw [w64 (x := p.f5 * row W H D C L p.f4) (by omega) (by omega), w64 (x := p.f5 + p.f5 * row W H D C L p.f4) (by omega) (by omega), w64 (by omega) (by omega)]
      refine ev_same (ih (i + 1) _ (by omega) (by omega) (by omega)) ?_
      rw [siz, Int.mul_add, Int.mul_one]
      omega
theorem rsize_loop (W H D C L : Int) (l : List (S34)) (hl : l.length ≤ 7) (hs : ∀ p ∈ l, 1 ≤ p.f5 ∧ p.f5 ≤ 1024) : ∀ (d i : Nat) (acc : Int), i + d = l.length → 0 ≤ acc → acc ≤ i * 9000000 → Ev (fun k => vitrineref10_Size.l0 k acc l (i : Int) W H D C L) (acc + siz W H D C L (l.drop i)) := by
  intro d
  induction d with
  | zero =>
    intro i acc hi h0 h1
    rw [List.drop_of_length_le (by omega), siz, Int.add_zero]
    refine Ev.step (f := fun _ => some acc) (fun k => ?_) (Ev.now _)
    simp only [vitrineref10_Size.l0]
    rw [if_neg (by omega)]
  | succ d ih =>
    intro i acc hi h0 h1
    have hlt : i < l.length := by omega
    have hp := hs _ (List.getElem_mem hlt)
    have hr := rd_at l i hlt
    have hw := w_succ (i := i) (by omega)
    rw [List.drop_eq_getElem_cons hlt]
    generalize l[i] = p at *
    have hm := siz_step (W := W) (H := H) (D := D) (C := C) (L := L) hp
    have hrr := row_range W H D C L p.f4
    refine Ev.step (f := fun k => ((vitrineref10_Row.f k W H D C L p.f4).bind fun t179 => (vitrineref10_Size.l0 k (wrap64 (acc + (wrap64 (p.f5 * (wrap64 (1 + t179)))))) l ((i + 1 : Nat) : Int) W H D C L))) (fun k => ?_) (Ev.bind (rRow_ev W H D C L p.f4) ?_)
    · simp only [vitrineref10_Size.l0]
      rw [if_pos (by omega), if_pos (by omega), hr, hw]
    · have e : p.f5 * (1 + row W H D C L p.f4) = p.f5 + p.f5 * row W H D C L p.f4 := by rw [Int.mul_add, Int.mul_one]
      rw [w64 (x := 1 + row W H D C L p.f4) (by omega) (by omega), e, w64 (x := p.f5 + p.f5 * row W H D C L p.f4) (by omega) (by omega), w64 (by omega) (by omega)]
      refine ev_same (ih (i + 1) _ (by omega) (by omega) (by omega)) ?_
      rw [siz, e]
      omega
theorem Size_ev (W H D C L : Int) (hL : -9223372036854775808 ≤ L ∧ L ≤ 9223372036854775807) : Ev (fun k => lace_Size.f k W H D C L) (siz W H D C L (pss W H D C L)) := by
  unfold lace_Size.f
  refine Ev.bind (Passes_ev W H D C L hL) ?_
  exact ev_same (size_loop W H D C L hL _ pss_len (fun p hp => (pss_sides p hp).2.2) (pss W H D C L).length 0 0 (by omega) (by omega) (by omega)) (by simp)
theorem rSize_ev (W H D C L : Int) : Ev (fun k => vitrineref10_Size.f k W H D C L) (siz W H D C L (pss W H D C L)) := by
  unfold vitrineref10_Size.f
  refine Ev.bind (rPasses_ev W H D C L) ?_
  exact ev_same (rsize_loop W H D C L _ pss_len (fun p hp => (pss_sides p hp).2.2) (pss W H D C L).length 0 0 (by omega) (by omega) (by omega)) (by simp)

end Go.Proofs.Ytlonbchidopcpaa.Pure
