/- The seven plain laws of layer 9 (filter), each: the law's function answers true of every input. Conditions: numbers of 64 bits, strings of at most 2^47 - 4096 bytes. -/
import Derived.Test.YtaomopibnehanaaPF09x5
import Derived.Test.YtaomopibnehanaaPF09x6
import Derived.Test.YtaomopibnehanaaPF09x7
import Derived.Test.YtaomopibnehanaaPF09x8
import Derived.Test.YtaomopibnehanaaPureF09
namespace Go.Proofs.Ytaomopibnehanaa.Pure
open Go.RowKit Go.Proofs.YtaomopibnehanaaW.PrintWords Go.Proofs.YtaomopibnehanaaW.PrintLast Go.Proofs.YtaomopibnehanaaW.PrintMore Go.Proofs.Ytaomopibnehanaa.PF09
set_option linter.unusedVariables false
set_option linter.unusedSimpArgs false
theorem awake_ev : Ev (fun k => vitrinelaw09_awake.f k) true := Ev.of vitrinelaw09_awake.mono (k := 60) (by unfold vitrinelaw09_awake.f; simp only [toList_data]; decide +kernel)
theorem awake_id : Ev (fun k => (vitrinelaw09_awake.f k).bind fun t => some t) true := ev_id awake_ev
theorem FilterDoes : ∀ (a0_0 : Int) (a0_1 : Int) (a0_2 : ByteArray) (a0_3 : ByteArray), ((Lit.int .i64 a0_0).wf = true) → ((Lit.int .i64 a0_1).wf = true) → (a0_2.size ≤ 140737488351232) → (a0_3.size ≤ 140737488351232) → ∃ k, vitrinelaw09_FilterDoes.f k a0_0 a0_1 a0_2 a0_3 = some true := by
  intro bpp kind line above _ _ hn _
  refine Ev.rounds ?_
  unfold vitrinelaw09_FilterDoes.f
  refine Ev.bind (Do_ev hn) (Ev.bind (rDo_ev hn) ?_)
  simp only [if_true]
  exact awake_id
theorem FilterUndoes : ∀ (a0_0 : Int) (a0_1 : Int) (a0_2 : ByteArray) (a0_3 : ByteArray), ((Lit.int .i64 a0_0).wf = true) → ((Lit.int .i64 a0_1).wf = true) → (a0_2.size ≤ 140737488351232) → (a0_3.size ≤ 140737488351232) → ∃ k, vitrinelaw09_FilterUndoes.f k a0_0 a0_1 a0_2 a0_3 = some true := by
  intro bpp kind line above _ _ hn _
  refine Ev.rounds ?_
  unfold vitrinelaw09_FilterUndoes.f
  refine Ev.bind (Undo_ev hn) (Ev.bind (rUndo_ev hn) ?_)
  simp only [if_true]
  exact awake_id
theorem FilterPicks : ∀ (a0_0 : Int) (a0_1 : Int) (a0_2 : ByteArray) (a0_3 : ByteArray), ((Lit.int .i64 a0_0).wf = true) → ((Lit.int .i64 a0_1).wf = true) → (a0_2.size ≤ 140737488351232) → (a0_3.size ≤ 140737488351232) → ∃ k, vitrinelaw09_FilterPicks.f k a0_0 a0_1 a0_2 a0_3 = some true := by
  intro bpp kind line above _ _ hn _
  refine Ev.rounds ?_
  unfold vitrinelaw09_FilterPicks.f
  refine Ev.bind (Pick_ev hn) (Ev.bind (rPick_ev hn) ?_)
  simp only [if_true]
  exact awake_id
theorem wrg_size {bpp kind : Int} {line line' above : ByteArray} (h : line.size = line'.size) : wrg bpp kind line above = wrg bpp kind line' above := by
  unfold wrg
  rw [h]
theorem wrg_or (bpp kind : Int) (line above : ByteArray) : wrg bpp kind line above = 0 ∨ wrg bpp kind line above = 1 ∨ wrg bpp kind line above = 28 := by
  unfold wrg
  split
  · exact .inr (.inl rfl)
  · split
    · exact .inr (.inr rfl)
    · exact .inl rfl
/-- Undone, a filtered line is the line. -/
theorem unL_do {bpp kind : Int} {line above : ByteArray} (hb : 1 ≤ bpp) (i : Nat) (hi : i ≤ line.size) : unL bpp kind (strOfNums (doL bpp kind line above)) above i = (List.range i).map fun j : Nat => bt line (j : Int) := by
  induction i with
  | zero => rfl
  | succ i ih =>
    have e := ih (by omega)
    unfold unL
    rw [e, List.range_succ, List.map_append, List.map_singleton]
    congr 2
    rw [bt_str (doL_byt _ _ _ _)]
    unfold doL
    rw [rd_range (by omega) (by omega), Int.toNat_natCast]
    have hl : (if (i : Int) ≥ bpp then rd ((List.range i).map fun j : Nat => bt line (j : Int)) (i - bpp) else 0) = lft line bpp i := by
      unfold lft
      by_cases h : (i : Int) ≥ bpp
      · rw [if_pos h, if_pos h, rd_range (by omega) (by omega)]
        congr 1
        omega
      · rw [if_neg h, if_neg h]
    rw [hl]
    unfold doAt
    have := bt_range line i
    omega
theorem un_do {bpp kind : Int} {line above : ByteArray} (hb : 1 ≤ bpp) : strOfNums (unL bpp kind (strOfNums (doL bpp kind line above)) above line.size) = line := by
  rw [unL_do hb _ (Nat.le_refl _)]
  exact str_range rfl (fun _ _ => rfl)
theorem unL_rd {bpp kind : Int} {line above : ByteArray} {j n : Nat} (h : j < n) : rd (unL bpp kind line above n) (j : Int) = (bt line j + pred kind (if (j : Int) ≥ bpp then rd (unL bpp kind line above j) (j - bpp) else 0) (bt above j) (lft above bpp j)) % 256 := by
  induction n with
  | zero => omega
  | succ n ih =>
    rw [unL_succ]
    conv => lhs; unfold rd
    rw [List.getD_eq_getElem?_getD, Int.toNat_natCast]
    by_cases e : j = n
    · subst e
      rw [List.getElem?_append_right (by rw [unL_length]; omega), unL_length, Nat.sub_self]
      rfl
    · rw [List.getElem?_append_left (by rw [unL_length]; omega)]
      have := ih (by omega)
      conv at this => lhs; unfold rd
      rw [List.getD_eq_getElem?_getD, Int.toNat_natCast] at this
      exact this
theorem unL_pre {bpp kind : Int} {line above : ByteArray} {j m n : Nat} (h : j < m) (h2 : m ≤ n) : rd (unL bpp kind line above n) (j : Int) = rd (unL bpp kind line above m) (j : Int) := by
  rw [unL_rd h, unL_rd (by omega)]
/-- Filtered, an undone line is the line. -/
theorem do_un {bpp kind : Int} {line above : ByteArray} (hb : 1 ≤ bpp) : strOfNums (doL bpp kind (strOfNums (unL bpp kind line above line.size)) above) = line := by
  have hsz : (strOfNums (unL bpp kind line above line.size)).size = line.size := by rw [strOfNums_size, unL_length]
  unfold doL
  refine str_range (by rw [hsz]) (fun i hi => ?_)
  rw [hsz] at hi
  unfold doAt
  have hu := unL_byt bpp kind line above line.size
  rw [bt_str hu, unL_rd hi]
  have hl : lft (strOfNums (unL bpp kind line above line.size)) bpp i = (if (i : Int) ≥ bpp then rd (unL bpp kind line above i) (i - bpp) else 0) := by
    unfold lft
    by_cases h : (i : Int) ≥ bpp
    · rw [if_pos h, if_pos h, bt_str hu]
      obtain ⟨m, hm⟩ : ∃ m : Nat, (i : Int) - bpp = (m : Int) := ⟨((i : Int) - bpp).toNat, by omega⟩
      rw [hm]
      exact unL_pre (by omega) (by omega)
    · rw [if_neg h, if_neg h]
  rw [hl]
  have := bt_range line i
  omega
theorem FilterBack : ∀ (a0_0 : Int) (a0_1 : Int) (a0_2 : ByteArray) (a0_3 : ByteArray), ((Lit.int .i64 a0_0).wf = true) → ((Lit.int .i64 a0_1).wf = true) → (a0_2.size ≤ 140737488351232) → (a0_3.size ≤ 140737488351232) → ∃ k, vitrinelaw09_FilterBack.f k a0_0 a0_1 a0_2 a0_3 = some true := by
  intro bpp kind line above _ _ hn _
  refine Ev.rounds ?_
  unfold vitrinelaw09_FilterBack.f
  refine Ev.bind (Do_ev hn) ?_
  by_cases h0 : wrg bpp kind line above = 0
  · obtain ⟨hb, _, _⟩ := wrg_zero h0
    simp only [h0, if_true]
    have s1 : (strOfNums (doL bpp kind line above)).size = line.size := by rw [strOfNums_size, doL_length]
    have s2 : (strOfNums (unL bpp kind line above line.size)).size = line.size := by rw [strOfNums_size, unL_length]
    refine Ev.bind (Undo_ev (by rw [s1]; exact hn)) (Ev.bind (Undo_ev hn) ?_)
    simp only [h0, if_true]
    refine Ev.bind (Do_ev (by rw [s2]; exact hn)) ?_
    have w1 : wrg bpp kind (strOfNums (doL bpp kind line above)) above = 0 := (wrg_size s1).trans h0
    have w2 : wrg bpp kind (strOfNums (unL bpp kind line above line.size)) above = 0 := (wrg_size s2).trans h0
    simp only [w1, w2, s1, if_true, un_do hb.1, do_un hb.1]
    exact awake_id
  · simp only [h0, if_false]
    refine Ev.bind (Undo_ev hn) ?_
    simp only [h0, if_false]
    rcases wrg_or bpp kind line above with h | h | h
    · exact absurd h h0
    · simp only [h, toList_data, if_true, if_false]
      exact awake_id
    · simp only [h, toList_data, show ¬ (28 : Int) = 1 by decide, if_true, if_false]
      exact awake_id
theorem rep_bt (n : Nat) (i : Int) : bt (strOfNums (List.replicate n 0)) i = 0 := by
  rw [bt_str (fun x hx => by rw [List.eq_of_mem_replicate hx]; omega)]
  unfold rd
  rw [List.getD_eq_getElem?_getD, List.getElem?_replicate]
  split <;> rfl
theorem doL_above {bpp kind : Int} {line above above' : ByteArray} (h : ∀ i, bt above i = bt above' i) : doL bpp kind line above = doL bpp kind line above' := by
  have e : doAt bpp kind line above = doAt bpp kind line above' := by
    funext i
    unfold doAt lft
    simp only [h]
  unfold doL
  rw [e]
theorem unL_above {bpp kind : Int} {line above above' : ByteArray} (h : ∀ i, bt above i = bt above' i) (n : Nat) : unL bpp kind line above n = unL bpp kind line above' n := by
  induction n with
  | zero => rfl
  | succ n ih =>
    unfold unL lft
    rw [ih]
    simp only [h]
theorem FilterFirst : ∀ (a0_0 : Int) (a0_1 : Int) (a0_2 : ByteArray) (a0_3 : ByteArray), ((Lit.int .i64 a0_0).wf = true) → ((Lit.int .i64 a0_1).wf = true) → (a0_2.size ≤ 140737488351232) → (a0_3.size ≤ 140737488351232) → ∃ k, vitrinelaw09_FilterFirst.f k a0_0 a0_1 a0_2 a0_3 = some true := by
  intro bpp kind line above _ _ hn _
  refine Ev.rounds ?_
  unfold vitrinelaw09_FilterFirst.f
  have c1 : (0 : Int) ≤ (line.size : Int) := by omega
  have c2 : line.size ≤ 281474976710656 := by omega
  simp only [Int.toNat_natCast, c1, c2, if_true, Option.bind_some]
  have hz : ∀ i, bt (⟨#[]⟩ : ByteArray) i = bt (strOfNums (List.replicate line.size 0)) i := fun i => by rw [rep_bt]; rfl
  have e1 := doL_above (bpp := bpp) (kind := kind) (line := line) hz
  have e2 := unL_above (bpp := bpp) (kind := kind) (line := line) hz line.size
  have e3 : wrg bpp kind line (strOfNums (List.replicate line.size 0)) = wrg bpp kind line (⟨#[]⟩ : ByteArray) := by
    unfold wrg
    have s1 : (strOfNums (List.replicate line.size 0)).size = line.size := by rw [strOfNums_size, List.length_replicate]
    have s2 : (⟨#[]⟩ : ByteArray).toList = [] := by rw [toList_data]
    simp only [s1, s2, ne_eq, not_true, and_false, false_and, or_false]
  refine Ev.bind (Do_ev hn) (Ev.bind (Do_ev hn) (Ev.bind (Undo_ev hn) (Ev.bind (Undo_ev hn) ?_)))
  simp only [e1, e2, e3, if_true]
  exact awake_id
theorem FilterZero : ∀ (a0_0 : Int) (a0_1 : Int) (a0_2 : ByteArray) (a0_3 : ByteArray), ((Lit.int .i64 a0_0).wf = true) → ((Lit.int .i64 a0_1).wf = true) → (a0_2.size ≤ 140737488351232) → (a0_3.size ≤ 140737488351232) → ∃ k, vitrinelaw09_FilterZero.f k a0_0 a0_1 a0_2 a0_3 = some true := by
  intro bpp kind line above _ _ hn _
  refine Ev.rounds ?_
  unfold vitrinelaw09_FilterZero.f
  refine Ev.bind (Do_ev hn) (Ev.bind (Undo_ev hn) ?_)
  by_cases h0 : wrg bpp 0 line above = 0
  · have p0 : ∀ a b c, pred 0 a b c = 0 := fun _ _ _ => rfl
    have e1 : strOfNums (doL bpp 0 line above) = line := by
      unfold doL
      refine str_range rfl (fun i _ => ?_)
      unfold doAt
      have := bt_range line i
      rw [p0]
      omega
    have e2 : ∀ n, unL bpp 0 line above n = (List.range n).map fun j : Nat => bt line (j : Int) := by
      intro n
      induction n with
      | zero => rfl
      | succ n ih =>
        unfold unL
        rw [ih, p0, List.range_succ, List.map_append, List.map_singleton]
        congr 2
        have := bt_range line n
        omega
    have e3 : strOfNums (unL bpp 0 line above line.size) = line := by
      rw [e2]
      exact str_range rfl (fun _ _ => rfl)
    simp only [h0, if_true, e1, e3]
    exact awake_id
  · have h1 := (wrg_arg h0 (kind := 0)).1
    simp only [h1, if_true]
    exact awake_id
theorem up_loop {line A B : ByteArray} {m : Int} (hn : line.size ≤ 140737488351232) (sA : A.size = line.size) (sB : B.size = line.size) (zA : ∀ i : Nat, i < line.size → bt A (i : Int) = 0) (zB : ∀ i : Nat, i < line.size → bt B (i : Int) = 0) (hm : m ≤ 2) :
    ∀ d i : Nat, i + d = line.size → Ev (fun k => vitrinelaw09_FilterUp.l0 k line A m 0 B 0 (i : Int)) true := by
  intro d
  induction d with
  | zero =>
    intro i hi
    refine Ev.step (fun k => ?_) awake_id
    simp only [vitrinelaw09_FilterUp.l0, if_true]
    rw [if_neg (by omega), if_pos hm]
  | succ d ih =>
    intro i hi
    have w1 : wrap64 ((i : Int) + 1) = ((i + 1 : Nat) : Int) := by rw [w64 (by omega) (by omega)]; rfl
    have g1 : (i : Int) < (line.size : Int) := by omega
    have g2 : (0 : Int) ≤ (i : Int) := by omega
    have g3 : (i : Int) < (A.size : Int) := by omega
    have g4 : (i : Int) < (B.size : Int) := by omega
    refine Ev.step (fun k => ?_) (ih (i + 1) (by omega))
    simp only [vitrinelaw09_FilterUp.l0]
    rw [if_pos g1, if_pos g2, if_pos g3, if_pos (zA i (by omega)), if_pos g4, if_pos (zB i (by omega)), w1]
theorem FilterUp : ∀ (a0 : Int) (a1 : ByteArray), ((Lit.int .i64 a0).wf = true) → (a1.size ≤ 140737488351232) → ∃ k, vitrinelaw09_FilterUp.f k a0 a1 = some true := by
  intro bpp line _ hn
  refine Ev.rounds ?_
  unfold vitrinelaw09_FilterUp.f
  refine Ev.bind (Do_ev hn) (Ev.bind (Pick_ev hn) ?_)
  by_cases h0 : wrg bpp 2 line line = 0
  · have hz := wrg_kind (kind' := 0) h0 (by omega)
    have d2 : ∀ i : Nat, doAt bpp 2 line line i = 0 := by
      intro i
      unfold doAt
      show (bt line i - bt line i) % 256 = 0
      omega
    have c2 : cstOf bpp line line 2 = 0 := by
      unfold cstOf
      refine cst_of_zero (fun i hi => ?_)
      rw [bt_str (doL_byt _ _ _ _)]
      unfold doL
      rw [rd_range (by omega) (by omega)]
      exact d2 _
    obtain ⟨p1, p2⟩ := pick_two (c := cstOf bpp line line) (fun j => (cst_range _ _).1) c2 2
    obtain ⟨q1, q2, q3⟩ := pick_spec (cstOf bpp line line) 4
    generalize hm : (pick (cstOf bpp line line) 4).1 = m at *
    have p1' : m ≤ 2 := p1
    have cm : cstOf bpp line line m = 0 := by rw [← q2]; exact p2
    have hk := wrg_kind (kind' := (m : Int)) h0 (by omega)
    simp only [h0, hz, if_true]
    refine Ev.bind (Do_ev hn) ?_
    have s1 : ∀ kd, (strOfNums (doL bpp kd line line)).size = line.size := fun kd => by rw [strOfNums_size, doL_length]
    have z1 : ∀ i : Nat, i < line.size → bt (strOfNums (doL bpp 2 line line)) (i : Int) = 0 := by
      intro i hi
      rw [bt_str (doL_byt _ _ _ _)]
      unfold doL
      rw [rd_range (by omega) (by omega)]
      exact d2 _
    have z2 : ∀ i : Nat, i < line.size → bt (strOfNums (doL bpp m line line)) (i : Int) = 0 := cst_zero (by unfold cstOf at cm; omega)
    simp only [hk, if_true, s1, bne_self_eq_false]
    have loop := up_loop (line := line) (A := strOfNums (doL bpp 2 line line)) (B := strOfNums (doL bpp m line line)) (m := m) hn (s1 _) (s1 _) z1 z2 (by omega)
    have l0 := loop line.size 0 (by omega)
    rw [show ((0 : Nat) : Int) = 0 from rfl] at l0
    refine Ev.step (fun k => ?_) l0
    simp only [vitrinelaw09_FilterUp.j0, if_false, Bool.false_eq_true]
  · have h1 : wrg bpp 0 line line ≠ 0 := fun h => h0 (wrg_kind h (by omega))
    obtain ⟨w0, w2⟩ := wrg_arg h1 (kind := 2)
    simp only [h1, w2, w0, if_false, show ¬ (1 : Int) = 0 by decide, if_true]
    exact awake_id

end Go.Proofs.Ytaomopibnehanaa.Pure
