/- What the methods of a strings.Builder do that lies at some cell of a block (in a struct of a type of its own): it holds the bytes that were written; every block but that one and rows of bytes stay. Condition: at most 2^47 bytes are written; the block's type lays a Builder at that cell.
   Own text. Ytdbiokmlgniobaa: the seat's Name; numbers are filled in by bld.py. -/
import Derived.Test.YtdbiokmlgniobaaXB
import Derived.Lib.FrozenHead
namespace Go.Proofs.YtdbiokmlgniobaaD
open Go.RowKit
set_option linter.unusedVariables false
set_option linter.unusedSimpArgs false
def Lies (T : TypeId) (n o : Nat) : Prop := o + 1 < n ∧ T ≠ 5 ∧ liesAt Try.prog Try.prog.depth T (n / Try.prog.cellsOf T) o 85 1 = true
def BAt (B b o : Nat) (T : TypeId) (cs : Array Value) (bs : List Value) (w : World) : Prop :=
  w.heap[b]? = some (.cells cs T (0, 0)) ∧ ∃ p v, cs[o]? = some p ∧ cs[o + 1]? = some v ∧ (p = .pointer none ∨ p = .pointer (some ⟨b, o, none⟩)) ∧ w.ownsRowF B 5 1 v bs.length bs ∧ v.ownBlock ≠ some b
set_option maxRecDepth 100000 in
theorem sub_eq (cs : Array Value) (o : Nat) (v : Value) (i : Nat) (h : i ≠ o) : (cs.setIfInBounds o v)[i]? = cs[i]? := by
  rw [Array.getElem?_setIfInBounds, if_neg (fun e => h e.symm)]
set_option maxRecDepth 100000 in
theorem sub_at (cs : Array Value) (o : Nat) (v : Value) (h : o < cs.size) : (cs.setIfInBounds o v)[o]? = some v := by
  rw [Array.getElem?_setIfInBounds, if_pos rfl, if_pos h]
set_option maxRecDepth 100000 in
theorem set_heap {w : World} {b o : Nat} {cs : Array Value} {T : TypeId} (h : w.heap[b]? = some (.cells cs T (0, 0))) (v : Value) : (w.setCell ⟨b, o, none⟩ v).heap[b]? = some (.cells (cs.setIfInBounds o v) T (0, 0)) := by
  rw [setCell_eq_setRow w b o cs T (0, 0) v h]
  exact setRow_heap w b cs _ T (0, 0) h
set_option maxRecDepth 100000 in
theorem set_grown (w : World) (b o : Nat) (v : Value) : w.grownBy (w.setCell ⟨b, o, none⟩ v) (some b) := ⟨rfl, rfl, rfl, by simp, fun k _ hk => Below.heap_setCell w _ _ k (fun e => hk (by rw [e]))⟩
set_option maxRecDepth 100000 in
theorem BAt.lt {B b o : Nat} {T : TypeId} {cs : Array Value} {bs : List Value} {w : World} (h : BAt B b o T cs bs w) : b < w.heap.size := (Array.getElem?_eq_some_iff.1 h.1).1
set_option maxRecDepth 100000 in
theorem BAt.drew {B b o : Nat} {T : TypeId} {cs : Array Value} {bs : List Value} {w : World} (h : BAt B b o T cs bs w) : BAt B b o T cs bs w.drew := h
set_option maxRecDepth 100000 in
theorem BAt.below {B b o : Nat} {T : TypeId} {cs : Array Value} {bs : List Value} {w w' : World} (h : BAt B b o T cs bs w) (hb : Below w.heap.size w w') : BAt B b o T cs bs w' := by
  obtain ⟨hbk, p, v, h1, h2, h3, h4, h5⟩ := h
  have hlt : b < w.heap.size := (Array.getElem?_eq_some_iff.1 hbk).1
  exact ⟨(hb.block b hlt).trans hbk, p, v, h1, h2, h3, h4.kept (⟨hb.os, hb.tape, hb.output, hb.size, fun k hk _ => hb.block k hk⟩ : w.grownBy w' none) (by cases hv : v.ownBlock <;> simp), h5⟩
set_option maxRecDepth 100000 in
theorem bld_size : (Try.prog.info? 85).map (·.size) = some 2 := by kernel_rfl
set_option maxRecDepth 100000 in
theorem copyCheck_used (b o : Nat) (w : World) (h0 : w.cell? ⟨b, o, none⟩ = some (.pointer (some ⟨b, o, none⟩))) :
    Calls Try.prog 59 #[.pointer (some ⟨b, o, none⟩)] w fun e w' => e = .returned (.tuple #[]) ∧ w' = w := by
  obtain ⟨j, hj, _⟩ := Option.map_eq_some_iff.1 bld_size
  go_enter Try.func59, Try.ntmps59
  go_wp2
  rw [Lib.run_neq_ptr_same w _ Try.underlying82 hj]
  go_wp2
  go_end0
  exact ⟨rfl, rfl⟩
set_option maxRecDepth 100000 in
theorem copyCheck_fresh (b o n : Nat) (T : TypeId) (w : World) (hT : Lies T n o) (h0 : w.cell? ⟨b, o, none⟩ = some (.pointer none)) (hsh : w.shape? b = some (T, n)) (hfz : w.frozen? ⟨b, o, none⟩ = false) :
    Calls Try.prog 59 #[.pointer (some ⟨b, o, none⟩)] w fun e w' => e = .returned (.tuple #[]) ∧ w' = w.setCell ⟨b, o, none⟩ (.pointer (some ⟨b, o, none⟩)) := by
  obtain ⟨j, hj, hjs⟩ := Option.map_eq_some_iff.1 bld_size
  obtain ⟨hn, _, hlies⟩ := hT
  go_enter Try.func59, Try.ntmps59
  go_wp2
  rw [Lib.run_to_unsafe w ⟨b, o, none⟩ Try.underlying82 Try.underlying120 hj (by rw [hjs]; decide) hsh (by show o < n; omega)]
  simp only [Result.andThen]
  rw [Oper.upon_value]
  go_wp2
  rw [run_callFunc_extern Try.func74 (by kernel_rfl) (by kernel_rfl) (by kernel_rfl) (e := Extern.AbiNoEscape.same) (by kernel_rfl)]
  rw [Lib.run_noEscape]
  simp only [Result.andThen]
  rw [Oper.upon_value]
  go_wp2
  rw [Lib.run_from_unsafe w ⟨b, o, none⟩ Try.underlying120 Try.underlying82 hj hsh hlies]
  simp only [Result.andThen]
  rw [Oper.upon_value]
  go_wp2
  go_end0
  exact ⟨rfl, rfl⟩
set_option maxRecDepth 100000 in
theorem copyCheck_at (B b o : Nat) (T : TypeId) (cs : Array Value) (bs : List Value) (w : World) (hT : Lies T cs.size o) (h : BAt B b o T cs bs w) :
    Calls Try.prog 59 #[.pointer (some ⟨b, o, none⟩)] w fun e w' => e = .returned (.tuple #[]) ∧ BAt B b o T (cs.setIfInBounds o (.pointer (some ⟨b, o, none⟩))) bs w' ∧ (∀ K, K ≤ b → Below K w w') ∧ w.heap.size ≤ w'.heap.size ∧ (∀ k, k ≠ b → w'.heap[k]? = w.heap[k]?) ∧ Lib.OthersKept 5 (some b) w w' := by
  obtain ⟨hbk, p, v, e1, e2, e3, e4, e5⟩ := h
  have hT' := hT
  obtain ⟨hn, _, _⟩ := hT
  have hc0 : w.cell? ⟨b, o, none⟩ = some p := (Lib.cell_of_heap hbk o).trans e1
  rcases e3 with rfl | rfl
  · refine (copyCheck_fresh b o cs.size T w hT' hc0 (by simp [World.shape?, hbk]) (Lib.frozen_of_heap hbk o)).mono ?_
    rintro e w' ⟨rfl, rfl⟩
    refine ⟨rfl, ⟨set_heap hbk _, _, v, sub_at _ _ _ (by omega), by rw [sub_eq _ _ _ _ (by omega)]; exact e2, .inr rfl, e4.kept (set_grown w b o _) (.inr e5), e5⟩, fun K hK => (Below.refl K w).setCell (p := ⟨b, o, none⟩) hK _, by simp, fun k hk => Below.heap_setCell w _ _ k hk, (Lib.OthersKept.refl _ _ w).setCell ⟨b, o, none⟩ rfl _⟩
  · refine (copyCheck_used b o w hc0).mono ?_
    rintro e w' ⟨rfl, rfl⟩
    have hself : cs.setIfInBounds o (.pointer (some ⟨b, o, none⟩)) = cs := by
      apply Array.ext_getElem?
      intro i
      by_cases e : i = o
      · subst e; rw [sub_at _ _ _ (by omega), e1]
      · rw [sub_eq _ _ _ _ e]
    rw [hself]
    exact ⟨rfl, ⟨hbk, _, v, e1, e2, .inr rfl, e4, e5⟩, fun K _ => Below.refl K _, Nat.le_refl _, fun _ _ => rfl, Lib.OthersKept.refl _ _ _⟩
set_option maxRecDepth 100000 in
theorem bld_byte : (Try.prog.info? 5).map (fun i => (i.zero, i.size, i.bytes)) = some (some (.int .u8 0), 1, 1) := by kernel_rfl
set_option maxHeartbeats 2000000 in
set_option maxRecDepth 100000 in
theorem WriteString_at (B b o : Nat) (T : TypeId) (cs : Array Value) (bs : List Value) (s : ByteArray) (w : World) (hT : Lies T cs.size o) (h : BAt B b o T cs bs w) (hlen : bs.length + s.size ≤ 140737488355328) (hBw : B ≤ w.heap.size) :
    Calls Try.prog 43 #[.pointer (some ⟨b, o, none⟩), .string s] w fun e w' => e = .returned (.tuple #[.int .i64 s.size, .nilIface]) ∧ (∃ v', BAt B b o T ((cs.setIfInBounds o (.pointer (some ⟨b, o, none⟩))).setIfInBounds (o + 1) v') (bs ++ Lib.strCells s) w') ∧ (∀ K, K ≤ b → K ≤ B → Below K w w') ∧ w.heap.size ≤ w'.heap.size ∧ (∀ k, k < B → k ≠ b → w'.heap[k]? = w.heap[k]?) ∧ Lib.OthersKept 5 (some b) w w' := by
  obtain ⟨i0, hi, hz0, hz1, hz2⟩ := info_parts bld_byte
  go_enter Try.func43, Try.ntmps43
  go_wp2_with (go_at_call 59; refine (copyCheck_at B b o T cs bs _ hT h).mono ?_)
  rintro e w1 ⟨rfl, h1, hb1, hs1, hm1, hk1⟩
  have hlt := h1.lt
  obtain ⟨hbk, p, v, e1, e2, e3, hown, hne⟩ := h1
  have hn : o + 1 < cs.size := hT.1
  rw [sub_at _ _ _ (by omega)] at e1
  obtain rfl := (Option.some.inj e1).symm
  have c0 : w1.cell? ⟨b, o, none⟩ = some (.pointer (some ⟨b, o, none⟩)) := (Lib.cell_of_heap hbk o).trans (sub_at _ _ _ (by omega))
  have c1 : w1.cell? ⟨b, o + 1, none⟩ = some v := (Lib.cell_of_heap hbk (o + 1)).trans e2
  have hTne := hT.2.1
  clear e3 h
  go_wp2_with (at_builtin; refine Lib.wpList_append_own_stringF _ rfl _ _ 83 9 rfl B 5 i0 Try.underlying83 Try.underlying9 hi hz0 hz1 hz2 _ _ _ rfl hown s rfl ?c3 ?c4 ?c5 ?_)
  case c3 => unfold maxLen; omega
  case c4 => omega
  case c5 => omega
  intro v' w2 hown' hgrow _
  have hb2 : w2.heap[b]? = some (.cells (cs.setIfInBounds o (.pointer (some ⟨b, o, none⟩))) T (0, 0)) := by
    rw [hgrow.block b hlt (fun e => hne e.symm)]
    exact hbk
  have hne' : v'.ownBlock ≠ some b := Lib.ownBlock_neF hown' hb2 hTne
  have d0 : w2.cell? ⟨b, o, none⟩ = some (.pointer (some ⟨b, o, none⟩)) := (Lib.cell_of_heap hb2 o).trans (sub_at _ _ _ (by omega))
  have d1 : w2.cell? ⟨b, o + 1, none⟩ = some v := (Lib.cell_of_heap hb2 (o + 1)).trans e2
  have f1 : w2.frozen? ⟨b, o + 1, none⟩ = false := Lib.frozen_of_heap hb2 (o + 1)
  obtain ⟨ao, n', cap, rfl⟩ : ∃ ao n' cap, v' = .slice ao n' cap := by
    rcases hown'.2 with ⟨hv, _⟩ | ⟨g, cap, cur, fz, hv, _⟩
    · exact ⟨_, _, _, hv⟩
    · exact ⟨_, _, _, hv⟩
  go_wp2
  go_ret2
  refine ⟨rfl, ⟨_, set_heap hb2 _, _, _, by rw [sub_eq _ _ _ _ (by omega)]; exact sub_at _ _ _ (by omega), sub_at _ _ _ (by rw [Array.size_setIfInBounds]; omega), .inr rfl, ?_, hne'⟩, fun K hK hKB => ?_, ?_, fun k hk hkb => ?_, (hk1.grown hgrow (Lib.ownsRowF_kind hown)).setCell ⟨b, o + 1, none⟩ rfl _⟩
  · have := hown'.kept (set_grown w2 b (o + 1) (.slice ao n' cap)) (.inr hne')
    simpa [Lib.strCells_length] using this
  · exact ((hb1 K hK).grown hgrow (by omega) (fun k hk => Nat.le_trans hKB (hown.lt k hk).1)).setCell (p := ⟨b, o + 1, none⟩) hK _
  · have := hgrow.size
    simp at this ⊢
    omega
  · rw [Below.heap_setCell w2 _ _ k hkb, hgrow.block k (by omega) (fun e => by have := (hown.lt k e.symm).1; omega), hm1 k hkb]
set_option maxHeartbeats 2000000 in
set_option maxRecDepth 100000 in
theorem String_zero (b o : Nat) (q : Option Addr) (cap : Nat) (w w1 : World) (hc : w.drew.cell? ⟨b, o + 1, none⟩ = some (.slice q 0 cap)) (hc1 : w1.cell? ⟨b, o + 1, none⟩ = some (.slice q 0 cap)) (q' : Option Addr)
    (hSD : (Builtin.unsafeSliceData_ #[83] 111 #[.slice q 0 cap]).run Try.prog w.drew = .ok (.pointer q') w1) :
    Calls Try.prog 46 #[.pointer (some ⟨b, o, none⟩)] w fun e w' => e = .returned (.string ⟨#[]⟩) ∧ w' = w1 := by
  have hUS : ∀ (W : World) (q : Option Addr), (Builtin.unsafeString_ #[111, 3] 9 #[.pointer q, .int .i64 0]).run Try.prog W = .ok (.string .empty) W := fun W q => Any.unsafeString_none Go.Proofs.YtdbiokmlgniobaaB.laysS Go.Proofs.YtdbiokmlgniobaaB.extraS W q
  have c0 : w.cell? ⟨b, o + 1, none⟩ = some (.slice q 0 cap) := hc
  go_enter Try.func46, Try.ntmps46
  go_wp2
  go_region
  all_goals (go_wp2; go_ret; exact ⟨rfl, rfl⟩)
set_option maxRecDepth 100000 in
theorem frozen_row {w : World} {B g cap n : Nat} {xs : List Value} (h : w.ownsRowF B 5 1 (.slice (some ⟨g, 0, none⟩) n cap) n xs) : (w.freeze ⟨g, 0, none⟩ n).ownsRowF B 5 1 (.slice (some ⟨g, 0, none⟩) n cap) n xs := by
  refine ⟨h.1, ?_⟩
  rcases h.2 with ⟨hv, _⟩ | ⟨g', cap', cur, fz, hv, hbg, hg, hfz, rest⟩
  · cases hv
  · injection hv with ha _ hcap
    injection ha with ha
    injection ha with hgg _ _
    subst hgg
    subst hcap
    unfold World.freeze
    split
    · exact .inr ⟨g, _, cur, fz, rfl, hbg, hg, hfz, rest⟩
    · obtain ⟨lo, hi⟩ := fz
      refine .inr ⟨g, _, cur, (if lo == hi then (0, 0 + n) else (min lo 0, max hi (0 + n))), rfl, hbg, ?_, ?_, rest⟩
      · simp [Array.getElem?_modify, hg]
      · simp only at hfz
        split <;> simp <;> omega
set_option maxRecDepth 100000 in
theorem freeze_other (w : World) (g n k : Nat) (h : k ≠ g) : (w.freeze ⟨g, 0, none⟩ n).heap[k]? = w.heap[k]? := by
  unfold World.freeze
  split
  · rfl
  · simp only [Array.getElem?_modify]
    rw [if_neg (Ne.symm h)]
set_option maxRecDepth 100000 in
theorem freeze_size (w : World) (g n : Nat) : (w.freeze ⟨g, 0, none⟩ n).heap.size = w.heap.size := by
  unfold World.freeze
  split
  · rfl
  · simp
set_option maxHeartbeats 2000000 in
set_option maxRecDepth 100000 in
theorem String_at (B b o : Nat) (T : TypeId) (cs : Array Value) (s : ByteArray) (w : World) (h : BAt B b o T cs (Lib.strCells s) w) (hBw : B ≤ w.heap.size) :
    Calls Try.prog 46 #[.pointer (some ⟨b, o, none⟩)] w fun e w' => e = .returned (.string s) ∧ BAt B b o T cs (Lib.strCells s) w' ∧ (∀ K, K ≤ B → Below K w w') ∧ w.heap.size ≤ w'.heap.size ∧ (∀ k, k < B → w'.heap[k]? = w.heap[k]?) ∧ Lib.OthersKept 5 (some b) w w' := by
  have hA := h
  have hlt := h.lt
  obtain ⟨hbk, p, v, e1, e2, e3, hown, hne⟩ := h
  have c1 : w.drew.cell? ⟨b, o + 1, none⟩ = some v := (Lib.cell_of_heap (w := w.drew) hbk (o + 1)).trans e2
  have hl : (Lib.strCells s).length = s.size := Lib.strCells_length s
  have hb0 : ∀ K, K ≤ B → Below K w w.drew := fun K _ => Below.drew (Below.refl K w)
  have hk0 := (Lib.OthersKept.refl 5 (some b) w).drew
  by_cases h0 : s.size = 0
  · have hs : s = ⟨#[]⟩ := ByteArray.size_eq_zero_iff.1 h0
    have hl0 : (Lib.strCells s).length = 0 := by omega
    rcases hown.2 with ⟨rfl, _⟩ | ⟨g, cap, cur, fz, rfl, hbg, hg, _, _, _, _, _⟩
    · refine (String_zero b o none 0 w w.drew c1 c1 none rfl).mono ?_
      rintro e w' ⟨rfl, rfl⟩
      exact ⟨by rw [hs], hA.drew, hb0, Nat.le_refl _, fun _ _ => rfl, hk0⟩
    · rw [hl0] at c1
      by_cases hc0 : cap = 0
      · subst hc0
        have hSD : (Builtin.unsafeSliceData_ #[83] 111 #[.slice (some ⟨g, 0, none⟩) 0 0]).run Try.prog w.drew = .ok (.pointer (some ⟨w.drew.heap.size, 0, none⟩)) (w.drew.alloc (.view ⟨g, 0, none⟩ 5)) :=
          Lib.run_unsafeSliceData_zero w.drew _ _ 5 Try.underlying111 ⟨g, 0, none⟩ 0 (5, cur.size) (by have hg' : w.drew.heap[g]? = some (.cells cur 5 fz) := hg; simp [World.shape?, hg'])
        have hAa : BAt B b o T cs (Lib.strCells s) (w.drew.alloc (.view ⟨g, 0, none⟩ 5)) := hA.drew.below ((Below.refl _ _).alloc (Nat.le_refl _) _)
        have c2 : (w.drew.alloc (.view ⟨g, 0, none⟩ 5)).cell? ⟨b, o + 1, none⟩ = some (.slice (some ⟨g, 0, none⟩) 0 0) := by
          have hx : (w.drew.alloc (.view ⟨g, 0, none⟩ 5)).heap[b]? = _ := (Lib.alloc_old w.drew _ b hlt).trans hbk
          rw [Lib.cell_of_heap hx, e2, hl0]
        refine (String_zero b o (some ⟨g, 0, none⟩) 0 w _ c1 c2 _ hSD).mono ?_
        rintro e w' ⟨rfl, rfl⟩
        exact ⟨by rw [hs], hAa, fun K hK => (hb0 K hK).alloc (by show K ≤ w.heap.size; omega) _, by simp, fun k hk => Lib.alloc_old w.drew _ k (by show k < w.heap.size; omega), hk0.alloc _⟩
      · refine (String_zero b o (some ⟨g, 0, none⟩) cap w w.drew c1 c1 _ (Lib.run_unsafeSliceData_row _ _ _ _ _ _ hc0)).mono ?_
        rintro e w' ⟨rfl, rfl⟩
        exact ⟨by rw [hs], hA.drew, hb0, Nat.le_refl _, fun _ _ => rfl, hk0⟩
  · obtain ⟨g, cap, cur, fz, rfl, hbg, hg, hfz, hnc, hcm, hcs, htake⟩ : ∃ g cap cur fz, v = .slice (some ⟨g, 0, none⟩) (Lib.strCells s).length cap ∧ B ≤ g ∧ w.heap[g]? = some (.cells cur 5 fz) ∧ fz.2 ≤ (Lib.strCells s).length * 1 ∧ (Lib.strCells s).length ≤ cap ∧ cap ≤ maxLen ∧ cur.size = cap * 1 ∧ cur.toList.take ((Lib.strCells s).length * 1) = Lib.strCells s := by
      rcases hown.2 with ⟨_, hz⟩ | ⟨g, cap, cur, fz, hv, r⟩
      · omega
      · exact ⟨g, cap, cur, fz, hv, r⟩
    have hll : s.data.toList.length = s.size := Array.length_toList
    have hss : (⟨s.data.toList.toArray⟩ : ByteArray) = s := by cases s; simp
    have hSD : (Builtin.unsafeSliceData_ #[83] 111 #[.slice (some ⟨g, 0, none⟩) s.size cap]).run Try.prog w.drew = .ok (.pointer (some ⟨g, 0, none⟩)) w.drew :=
      Lib.run_unsafeSliceData_row _ _ _ _ _ _ (by omega)
    have hUS : (Builtin.unsafeString_ #[111, 3] 9 #[.pointer (some ⟨g, 0, none⟩), .int .i64 s.size]).run Try.prog w.drew = .ok (.string s) (w.drew.freeze ⟨g, 0, none⟩ s.size) := by
      have key := Lib.run_unsafeString_row w.drew 111 3 9 5 Try.underlying111 (by kernel_rfl) g cur.size (by have hg' : w.drew.heap[g]? = some (.cells cur 5 fz) := hg; simp [World.shape?, hg']) s.data.toList (by intro e; rw [e] at hll; simp at hll; omega) (by omega) (by unfold maxLen at hcm; omega) (fun j x hx => hown.cells (g := g) rfl j (.int .u8 x.toNat) (by simp [Lib.strCells, hx]))
      rw [hll, hss] at key
      exact key
    have hls : (Lib.strCells s).length = s.size := hl
    rw [hls] at c1
    have c0 : w.cell? ⟨b, o + 1, none⟩ = some (.slice (some ⟨g, 0, none⟩) s.size cap) := c1
    have hgb : b ≠ g := fun e => hne (by simp [Value.ownBlock, e])
    have hkeep : BAt B b o T cs (Lib.strCells s) (w.drew.freeze ⟨g, 0, none⟩ s.size) := by
      refine ⟨(freeze_other w.drew g _ b hgb).trans hbk, p, _, e1, e2, e3, ?_, hne⟩
      rw [← hls]
      exact frozen_row (w := w.drew) hown
    have hsz := freeze_size w.drew g s.size
    have hother := fun k hk => freeze_other w.drew g s.size k hk
    generalize hF : w.drew.freeze ⟨g, 0, none⟩ s.size = wf at *
    have hfr : ∀ K, K ≤ B → Below K w wf := fun K hK => hF ▸ Lib.below_freeze (hb0 K hK) (p := ⟨g, 0, none⟩) (by show K ≤ g; omega) _
    have hfk : Lib.OthersKept 5 (some b) w wf := hF ▸ hk0.freeze ⟨g, 0, none⟩ _ ⟨cur, fz, hg⟩
    have hoth2 : ∀ k, k < B → wf.heap[k]? = w.heap[k]? := fun k hk => hother k (by omega)
    clear hother hF hown hA e1 e2 e3 hcs htake hnc hcm hfz hg hbk hb0 hk0 hl hls hll hss
    go_enter Try.func46, Try.ntmps46
    go_wp2
    go_region
    all_goals (go_wp2; go_ret; exact ⟨rfl, hkeep, hfr, by rw [hsz]; exact Nat.le_refl _, hoth2, hfk⟩)
end Go.Proofs.YtdbiokmlgniobaaD
