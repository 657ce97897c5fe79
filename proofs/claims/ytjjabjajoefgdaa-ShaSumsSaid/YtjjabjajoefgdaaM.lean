/- Rows of bytes of a call's own that a conversion may have marked behind their end: appended to, read and written as any other row. Conditions: those that each lemma names.
   Own text of this session. Ytjjabjajoefgdaa: the seat's Name. -/
import Derived.Lib.FrozenHead2
import Derived.Lib.ConvBytes
import Derived.Test.YtjjabjajoefgdaaWMore
namespace Go.Proofs.YtjjabjajoefgdaaM
open Go.RowKit Go.Proofs.YtjjabjajoefgdaaW.PrintWords Go.Proofs.YtjjabjajoefgdaaW.PrintMore
set_option linter.unusedVariables false
set_option linter.unusedSimpArgs false
/-- A row of bytes: what is frozen of it lies within the elements, or behind the last cell. (d, ok: for the form's sake.) -/
def RM (d : Kd Int) (e : TypeId) (w : World) (base : Nat) (ok : Nat → Prop) (v : Value) (xs : List Int) : Prop :=
  (v = .slice none 0 0 ∧ xs = []) ∨
  ∃ g cap cur fz, v = .slice (some ⟨g, 0, none⟩) xs.length cap ∧ base ≤ g ∧ w.heap[g]? = some (.cells cur e fz) ∧ (fz.2 ≤ xs.length ∨ cur.size ≤ fz.1) ∧ xs.length ≤ cap ∧ cap ≤ maxLen ∧ cur.size = cap ∧ cur.toList.take xs.length = nums .u8 xs
section
variable {d : Kd Int} {e : TypeId} {w w1 : World} {base : Nat} {ok : Nat → Prop} {v : Value} {xs : List Int}
theorem RM_of_own (h : w.ownsRow base e 1 v xs.length (nums .u8 xs)) : RM d e w base ok v xs := by
  rcases h.2 with ⟨h1, h2⟩ | ⟨g, cap, cur, h1, h2, h3, h4, h5, h6, h7⟩
  · exact .inl ⟨h1, List.length_eq_zero_iff.1 h2⟩
  · exact .inr ⟨g, cap, cur, (0, 0), h1, h2, h3, .inl (Nat.zero_le _), h4, h5, by simpa using h6, by simpa using h7⟩
theorem RM_of_R (h : Kd.R (Kd.int .u8) e w base ok v xs) : RM d e w base ok v xs := RM_of_own (Kd.own_of_R h)
theorem RM_step (h : RM d e w base ok v xs) (hm : ∀ k, v.ownBlock = some k → k < w.heap.size → w1.heap[k]? = w.heap[k]?) : RM d e w1 base ok v xs := by
  rcases h with h | ⟨g, cap, cur, fz, rfl, h2, h3, rest⟩
  · exact .inl h
  · exact .inr ⟨g, cap, cur, fz, rfl, h2, (hm g (by simp [Value.ownBlock]) (Array.getElem?_eq_some_iff.1 h3).1).trans h3, rest⟩
theorem RM_below (h : RM d e w base ok v xs) (hb : Below w.heap.size w w1) : RM d e w1 base ok v xs := RM_step h (fun k _ hk => hb.block k hk)
theorem RM_alloc (h : RM d e w base ok v xs) (o : Obj) : RM d e (w.alloc o) base ok v xs := RM_below h (below_alloc (Below.refl _ _) o)
theorem RM_drew (h : RM d e w base ok v xs) : RM d e w.drew base ok v xs := RM_below h (below_drew (Below.refl _ _))
theorem RM_drewN (h : RM d e w base ok v xs) (m : Nat) : RM d e (w.drewN m) base ok v xs := RM_below h (pw_below_drewN (Below.refl _ _) m)
theorem RM_mono {ok' : Nat → Prop} (h : RM d e w base ok v xs) (_ : ∀ k, ok k → ok' k) : RM d e w base ok' v xs := h
theorem RM_lower {base' : Nat} (h : RM d e w base ok v xs) (hb : base' ≤ base) : RM d e w base' ok v xs := by
  rcases h with h | ⟨g, cap, cur, fz, h1, h2, rest⟩
  · exact .inl h
  · exact .inr ⟨g, cap, cur, fz, h1, Nat.le_trans hb h2, rest⟩
theorem RM_slice (h : RM d e w base ok v xs) : ∃ A c, v = .slice A xs.length c := by
  rcases h with ⟨rfl, rfl⟩ | ⟨g, cap, cur, fz, rfl, _⟩
  · exact ⟨_, _, rfl⟩
  · exact ⟨_, _, rfl⟩
theorem RM_lt (h : RM d e w base ok v xs) : ∀ k, v.ownBlock = some k → base ≤ k ∧ k < w.heap.size := by
  intro k hk
  rcases h with ⟨rfl, _⟩ | ⟨g, cap, cur, fz, rfl, h2, h3, _⟩
  · simp [Value.ownBlock] at hk
  · simp [Value.ownBlock] at hk
    subst hk
    exact ⟨h2, (Array.getElem?_eq_some_iff.1 h3).1⟩
theorem RM_cell {g : Nat} {n c : Nat} (h : RM d e w base ok (.slice (some ⟨g, 0, none⟩) n c) xs) (j : Nat) (u : Value) (hu : (nums .u8 xs)[j]? = some u) : w.cell? ((⟨g, 0, none⟩ : Addr).add j) = some u := by
  rcases h with ⟨h1, _⟩ | ⟨g', cap, cur, fz, h1, h2, h3, h4, h5, h6, h7, h8⟩
  · cases h1
  · injection h1 with h1 _ _
    injection h1 with h1
    injection h1 with h1 _ _
    subst h1
    have hadd : (⟨g, 0, none⟩ : Addr).add j = ⟨g, j, none⟩ := by unfold Addr.add; split <;> simp_all
    rw [hadd, cell_of_row w g j cur e fz h3]
    rw [← h8, List.getElem?_take] at hu
    split at hu
    · simpa using hu
    · cases hu
theorem RM_reads' {A : Option Addr} {n c : Nat} (h : RM d e w base ok (.slice A n c) xs) : n = xs.length ∧ n ≤ c ∧ Kd.C (Kd.int .u8) w A xs.length xs := by
  have hh := h
  rcases h with ⟨h1, rfl⟩ | ⟨g, cap, cur, fz, h1, h2, h3, h4, h5, h6, h7, h8⟩
  · injection h1 with h1 h2 h3
    subst h1 h2 h3
    exact ⟨rfl, Nat.le_refl _, Kd.C_nil _ _⟩
  · injection h1 with h1 h9 h10
    subst h1 h9 h10
    refine ⟨rfl, h5, ?_⟩
    refine Kd.C_of_reads (enc := Value.int .u8) (d := (0 : Int)) ⟨rfl, by unfold maxLen at h6; omega, fun hp => ⟨_, rfl, fun j hj => ?_⟩⟩
    refine RM_cell hh j _ ?_
    unfold nums
    rw [List.getElem?_map, List.getElem?_eq_getElem hj, List.getD_eq_getElem?_getD, List.getElem?_eq_getElem hj]
    rfl
end
/-- Cells stored behind the elements, of a row that is marked behind its last cell. -/
theorem store_mark (P : Program) (g o : Nat) (t : TypeId) (fz : Nat × Nat) : ∀ (vs : List Value) (i : Nat) (cur : Array Value) (w : World), w.heap[g]? = some (.cells cur t fz) → cur.size ≤ fz.1 → o + i + vs.length ≤ cur.size → (∀ v ∈ vs, v.oneCell' = true) →
    (storeCells ⟨g, o, none⟩ vs i).run P w = .ok () (w.setRow g (cur.toList.take (o + i) ++ vs ++ cur.toList.drop (o + i + vs.length)).toArray) := by
  intro vs
  induction vs with
  | nil =>
    intro i cur w hg _ _ _
    simp only [storeCells, List.append_nil, List.length_nil, Nat.add_zero, List.take_append_drop, Array.toArray_toList]
    rw [setRow_self w g cur t fz hg]
    rfl
  | cons x rest ih =>
    intro i cur w hg hfz hl h1
    have hi : o + i < cur.size := by simp at hl; omega
    have hadd : (⟨g, o, none⟩ : Addr).add i = ⟨g, o + i, none⟩ := by unfold Addr.add; split <;> simp_all
    have hcell : w.cell? ⟨g, o + i, none⟩ = some cur[o + i] := by simp [World.cell?, hg, hi]
    have hfro : w.frozen? ⟨g, o + i, none⟩ = false := by
      obtain ⟨lo, hi'⟩ := fz
      simp only [World.frozen?, hg, Bool.and_eq_false_iff, decide_eq_false_iff_not]
      left
      simp only at hfz
      omega
    have hst : (store ((⟨g, o, none⟩ : Addr).add i) x).run P w = .ok () (w.setRow g (cur.setIfInBounds (o + i) x)) := by
      rw [hadd, run_store P w _ x _ (h1 x (by simp)), hcell]
      simp [hfro, setCell_eq_setRow w g (o + i) cur t fz x hg]
    have ih2 := ih (i + 1) (cur.setIfInBounds (o + i) x) (w.setRow g (cur.setIfInBounds (o + i) x)) (setRow_heap w g cur _ t _ hg) (by simpa using hfz) (by simp at hl ⊢; omega) (fun y hy => h1 y (by simp [hy]))
    simp only [storeCells, Sem.run_bind, hst, Result.andThen_ok, ih2, setRow_setRow]
    congr 3
    have e := list_seg_step cur.toList (o + i) x rest (by simp at hl ⊢; omega)
    simpa [Array.toList_setIfInBounds, Nat.add_assoc] using e
/-- .. and of either kind of row. -/
theorem store_either (P : Program) (g o : Nat) (t : TypeId) (fz : Nat × Nat) (vs : List Value) (cur : Array Value) (w : World) (hg : w.heap[g]? = some (.cells cur t fz)) (hfz : fz.2 ≤ o ∨ cur.size ≤ fz.1) (hl : o + vs.length ≤ cur.size) (h1 : ∀ v ∈ vs, v.oneCell' = true) :
    (storeCells ⟨g, o, none⟩ vs 0).run P w = .ok () (w.setRow g (cur.toList.take o ++ vs ++ cur.toList.drop (o + vs.length)).toArray) := by
  rcases hfz with h | h
  · simpa using run_storeCells_atF P g o t fz vs 0 cur w hg (by simpa using h) (by simpa using hl) h1
  · simpa using store_mark P g o t fz vs 0 cur w hg h (by simpa using hl) h1
/-- A row with new bytes behind it, in place or in a new row. -/
theorem RM_room {d : Kd Int} {e : TypeId} {w : World} {base : Nat} {ok : Nat → Prop} {xs ys : List Int} {g cap : Nat} {cur : Array Value} {fz : Nat × Nat} (hbg : base ≤ g) (hg : w.heap[g]? = some (.cells cur e fz)) (hfz : fz.2 ≤ xs.length ∨ cur.size ≤ fz.1) (hroom : xs.length + ys.length ≤ cap) (hcm : cap ≤ maxLen) (hcs : cur.size = cap) (ht : cur.toList.take xs.length = nums .u8 xs) :
    RM d e (w.setRow g (cur.toList.take xs.length ++ nums .u8 ys ++ cur.toList.drop (xs.length + ys.length)).toArray) base ok (.slice (some ⟨g, 0, none⟩) (xs.length + ys.length) cap) (xs ++ ys) ∧
      w.grownBy (w.setRow g (cur.toList.take xs.length ++ nums .u8 ys ++ cur.toList.drop (xs.length + ys.length)).toArray) (some g) := by
  have hny : (nums .u8 ys).length = ys.length := nums_length _ _
  have hsz : (cur.toList.take xs.length ++ nums .u8 ys ++ cur.toList.drop (xs.length + ys.length)).toArray.size = cur.size := by
    simp only [List.size_toArray, List.length_append, List.length_take, List.length_drop, Array.length_toList, hny]
    omega
  refine ⟨.inr ⟨g, cap, _, fz, by rw [List.length_append], hbg, setRow_heap w g cur _ e _ hg, ?_, by rw [List.length_append]; exact hroom, hcm, by rw [hsz]; exact hcs, ?_⟩, ⟨rfl, rfl, rfl, by simp, fun k _ hk => setRow_other w g k _ (fun e => hk (by rw [e]))⟩⟩
  · rw [hsz, List.length_append]
    omega
  · have h2 : (xs ++ ys).length = (nums .u8 xs ++ nums .u8 ys).length := by simp [nums]
    rw [ht, nums_append, h2]
    exact List.take_left
theorem RM_grow {d : Kd Int} {e : TypeId} {w : World} {base : Nat} {ok : Nat → Prop} {xs ys : List Int} {cap : Nat} (hbase : base ≤ w.heap.size) (h63 : xs.length + ys.length ≤ maxLen) :
    RM d e (w.drew.alloc (.cells ((nums .u8 xs).toArray ++ (nums .u8 ys).toArray ++ Builtin.zeroCells (Value.int .u8 0).cells (grownCap w (xs.length + ys.length) cap e - (xs.length + ys.length))) e)) base ok (.slice (some ⟨w.heap.size, 0, none⟩) (xs.length + ys.length) (grownCap w (xs.length + ys.length) cap e)) (xs ++ ys) := by
  have hge := grownCap_ge w (xs.length + ys.length) cap e
  have hcm2 : grownCap w (xs.length + ys.length) cap e ≤ maxLen := grownCap_le_maxLen w _ cap e h63
  have hnx : (nums .u8 xs).length = xs.length := nums_length _ _
  have hny : (nums .u8 ys).length = ys.length := nums_length _ _
  have hz1 : (Value.int IntKind.u8 0).cells.size = 1 := rfl
  refine .inr ⟨w.heap.size, _, _, (0, 0), by rw [List.length_append], hbase, heap_alloc_new w.drew _, .inl (Nat.zero_le _), by rw [List.length_append]; exact hge, hcm2, ?_, ?_⟩
  · simp only [Array.size_append, List.size_toArray, size_zeroCells, hz1, hnx, hny]
    omega
  · have h2 : (xs ++ ys).length = (nums .u8 xs ++ nums .u8 ys).length := by simp [nums]
    simp only [Array.toList_append, List.append_assoc]
    rw [← List.append_assoc, nums_append, h2]
    exact List.take_left
section
variable {P : Program} {d : Kd Int} {e : TypeId} {w : World} {base : Nat} {ok : Nat → Prop} {v : Value} {xs : List Int}
theorem strCells_nums (y : ByteArray) : Lib.strCells y = nums .u8 (bytesOf y) := by simp [nums, bytesOf, Lib.strCells]
/-- append(row, a string...). -/
theorem RM_run_str (h : RM d e w base ok v xs) (t u ty : TypeId) (ht : P.underlying t = some (.slice e)) (hu : P.underlying u = some .string) (hinfo : (P.info? e).map (fun i => (i.zero, i.size, i.bytes)) = some (some (.int .u8 0), 1, 1)) (y : ByteArray) (hl : xs.length + y.size ≤ 140737488355328) (hbase : base ≤ w.heap.size) :
    ∃ v1 w1, (Builtin.append_ #[t, u] ty #[v, .string y]).run P w = .ok v1 w1 ∧ RM d e w1 base ok v1 (xs ++ bytesOf y) ∧ w.grownBy w1 v.ownBlock := by
  obtain ⟨i0, hi, hzz⟩ := Option.map_eq_some_iff.1 hinfo
  simp only [Prod.mk.injEq] at hzz
  obtain ⟨hz0, hz1, hz2⟩ := hzz
  have hyl : (bytesOf y).length = y.size := bytesOf_length y
  rcases h with ⟨rfl, rfl⟩ | ⟨g, cap, cur, fz, rfl, hbg, hg, hfz, hnc, hcm, hcs, htake⟩
  · obtain ⟨v1, w1, h1, h2, h3, h4⟩ := Lib.run_append_own_string (P := P) w base t u ty e i0 ht hu hi hz0 hz1 hz2 (.slice none 0 0) 0 [] ⟨by simp, .inl ⟨rfl, rfl⟩⟩ y (by simp only [maxLen, List.length_nil] at *; omega) (by simpa using hl) hbase
    exact ⟨v1, w1, h1, RM_of_own (by rw [List.nil_append, hyl, ← strCells_nums]; simpa using h2), h3⟩
  · by_cases hroom : xs.length + y.size ≤ cap
    · have hf := Lib.run_firstCells_string (P := P) w 1 y
      have hst := store_either P g xs.length e fz (Lib.strCells y) cur w hg hfz (by rw [Lib.strCells_length]; omega) (Lib.strCells_oneCell y)
      have hr : (Builtin.append_ #[t, u] ty #[.slice (some ⟨g, 0, none⟩) xs.length cap, .string y]).run P w = .ok (.slice (some ⟨g, 0, none⟩) (xs.length + y.size) cap) (w.setRow g (cur.toList.take xs.length ++ Lib.strCells y ++ cur.toList.drop (xs.length + y.size)).toArray) := by
        rw [Lib.strCells_length] at hst
        simp [Builtin.append_, run_underlying ht, run_underlying hu, sizeOf, typeInfo, hi, hz1, Builtin.lenOf, hroom, hf, Addr.add_lit, hst]
      have hR := RM_room (d := d) (ok := ok) (ys := bytesOf y) hbg hg hfz (by rw [hyl]; exact hroom) hcm hcs htake
      rw [hyl, ← strCells_nums] at hR
      exact ⟨_, _, hr, hR.1, hR.2⟩
    · have hr := Lib.run_append_grow_string (P := P) w t u ty e i0 (.int .u8 0) ht hu hi hz0 ⟨g, 0, none⟩ xs.length cap (nums .u8 xs) (by rw [hz1, nums_length]; omega) (fun j q hq => RM_cell (d := d) (ok := ok) (base := base) (n := xs.length) (c := cap) (.inr ⟨g, cap, cur, fz, rfl, hbg, hg, hfz, hnc, hcm, hcs, htake⟩) j q hq) y (by omega) (by omega) (by rw [hz2]; exact growslice_fits (by omega) (by omega))
      have hG := RM_grow (d := d) (ok := ok) (e := e) (ys := bytesOf y) (xs := xs) (cap := cap) hbase (by rw [hyl]; simp only [maxLen]; omega)
      rw [hyl, ← strCells_nums] at hG
      exact ⟨_, _, hr, hG, ⟨rfl, rfl, rfl, by simp, fun k hk _ => Lib.alloc_old w.drew _ k hk⟩⟩
/-- append(row, a byte). -/
theorem RM_run_one (h : RM d e w base ok v xs) (t ty : TypeId) (ht : P.underlying t = some (.slice e)) (hinfo : (P.info? e).map (fun i => (i.zero, i.size, i.bytes)) = some (some (.int .u8 0), 1, 1)) (p : Int) (ad : Addr) (c : Nat) (hcell : w.cell? ad = some (.int .u8 p)) (hl : xs.length + 1 ≤ 140737488355328) (hbase : base ≤ w.heap.size) :
    ∃ v1 w1, (Builtin.append_ #[t, t] ty #[v, .slice (some ad) 1 c]).run P w = .ok v1 w1 ∧ RM d e w1 base ok v1 (xs ++ [p]) ∧ w.grownBy w1 v.ownBlock ∧ (v1.ownBlock = v.ownBlock ∨ ∃ b, v1.ownBlock = some b ∧ w.heap.size ≤ b) := by
  obtain ⟨i0, hi, hzz⟩ := Option.map_eq_some_iff.1 hinfo
  simp only [Prod.mk.injEq] at hzz
  obtain ⟨hz0, hz1, hz2⟩ := hzz
  have hnews : ∀ j u, ([.int .u8 p] : List Value)[j]? = some u → w.cell? (ad.add j) = some u := by
    intro j u hj
    match j, hj with
    | 0, hj =>
      simp at hj
      subst hj
      have : ad.add 0 = ad := by unfold Addr.add; split <;> simp_all
      rw [this]
      exact hcell
  have hone : ∀ u ∈ ([.int .u8 p] : List Value), u.oneCell' = true := by
    intro u hu
    simp at hu
    subst hu
    rfl
  rcases h with ⟨rfl, rfl⟩ | ⟨g, cap, cur, fz, rfl, hbg, hg, hfz, hnc, hcm, hcs, htake⟩
  · obtain ⟨v1, w1, h1, h2, h3, _, h4⟩ := run_append_own_at (P := P) w base t ty e i0 (.int .u8 0) 1 1 ht hi hz0 hz1 hz2 rfl (by decide) (.slice none 0 0) 0 [] ⟨by simp, .inl ⟨rfl, rfl⟩⟩ ad 1 c [.int .u8 p] (by simp) hnews hone (by simp [maxLen]) (by simp) hbase
    exact ⟨v1, w1, h1, RM_of_own (by simpa [nums] using h2), h3, h4.imp id (fun hb => ⟨_, hb, Nat.le_refl _⟩)⟩
  · by_cases hroom : xs.length + 1 ≤ cap
    · have hf := run_firstCells_some (P := P) w 1 1 ad 1 c [.int .u8 p] (by simp) hnews
      have hst := store_either P g xs.length e fz [.int .u8 p] cur w hg hfz (by simp only [List.length_singleton]; omega) hone
      have hr : (Builtin.append_ #[t, t] ty #[.slice (some ⟨g, 0, none⟩) xs.length cap, .slice (some ad) 1 c]).run P w = .ok (.slice (some ⟨g, 0, none⟩) (xs.length + 1) cap) (w.setRow g (cur.toList.take xs.length ++ [Value.int .u8 p] ++ cur.toList.drop (xs.length + 1)).toArray) := by
        simp only [List.length_singleton] at hst
        simp [Builtin.append_, run_underlying ht, sizeOf, typeInfo, hi, hz1, Builtin.lenOf, hroom, hf, Addr.add_lit, hst]
      have hR := RM_room (d := d) (ok := ok) (ys := [p]) hbg hg hfz (by simpa using hroom) hcm hcs htake
      exact ⟨_, _, hr, hR.1, hR.2, .inl rfl⟩
    · have hr := run_append_grow (P := P) w t ty e i0 (.int .u8 0) ht hi hz0 ⟨g, 0, none⟩ xs.length cap (nums .u8 xs) (by rw [hz1, nums_length]; omega) (fun j q hq => RM_cell (d := d) (ok := ok) (base := base) (n := xs.length) (c := cap) (.inr ⟨g, cap, cur, fz, rfl, hbg, hg, hfz, hnc, hcm, hcs, htake⟩) j q hq) ad 1 c [.int .u8 p] (by simp [hz1]) hnews (by omega) (by omega) (by rw [hz2]; exact growslice_fits (by omega) (by omega))
      have hG := RM_grow (d := d) (ok := ok) (e := e) (ys := [p]) (xs := xs) (cap := cap) hbase (by simp only [maxLen, List.length_singleton]; omega)
      exact ⟨_, _, hr, hG, ⟨rfl, rfl, rfl, by simp, fun k hk _ => Lib.alloc_old w.drew _ k hk⟩, .inr ⟨w.heap.size, by simp [Value.ownBlock], Nat.le_refl _⟩⟩
/-- []byte(s). -/
theorem RM_run_conv (src t : TypeId) (s : ByteArray) {u : TypeDesc} (hs : P.underlying src = some u) (ht : P.underlying t = some (.slice e)) (he : P.underlying e = some (.int .u8)) (hbase : base ≤ w.heap.size) (hl : s.size ≤ 9223372036854775807) :
    ∃ v1 w1, (convert src t (.string s)).run P w = .ok v1 w1 ∧ RM d e w1 base ok v1 (bytesOf s) ∧ Below w.heap.size w w1 ∧ (∃ b, v1.ownBlock = some b ∧ w.heap.size ≤ b) := by
  refine ⟨_, _, Lib.run_convert_string_bytes w src t e s hs ht he, ?_, ?_, ⟨w.heap.size, by simp [Value.ownBlock], Nat.le_refl _⟩⟩
  · have hge : s.size ≤ grownCap w s.size 0 e := by simpa using grownCap_ge w s.size 0 e
    have hcm2 : grownCap w s.size 0 e ≤ maxLen := grownCap_le_maxLen w _ 0 e (by unfold maxLen; omega)
    have hsz : (Lib.bytesCells w e s).size = grownCap w s.size 0 e := by
      unfold Lib.bytesCells
      simp only [Array.size_append, Array.size_map, Array.size_replicate]
      show s.size + _ = _
      omega
    refine .inr ⟨w.heap.size, _, _, _, by rw [bytesOf_length], hbase, Lib.bytesWorld_at_new w e s, .inr (Nat.le_refl _), by rw [bytesOf_length]; exact hge, hcm2, hsz, ?_⟩
    rw [← strCells_nums, bytesOf_length]
    unfold Lib.bytesCells Lib.strCells
    rw [Array.toList_append, Array.toList_map]
    have hl2 : s.size = (s.data.toList.map fun b => Value.int .u8 b.toNat).length := by simp
    rw [List.take_append_of_le_length (by rw [← hl2]; exact Nat.le_refl _), hl2, List.take_length]
  · refine ⟨rfl, rfl, rfl, by rw [Lib.bytesWorld_size]; omega, fun k hk => Lib.bytesWorld_at_old w e s k hk⟩
end
/-- string(row). -/
theorem RM_string {P : Program} {w : World} {d : Kd Int} {base : Nat} {ok : Nat → Prop} {e e' src dst : TypeId} {v : Value} {xs : List Int} (hs : P.underlying src = some (.slice e)) (he : P.underlying e = some (.int .u8)) (hd : P.underlying dst = some .string)
    (h : RM d e' w base ok v xs) : (convert src dst v).run P w = .ok (.string (strOfNums xs)) w := by
  rcases h with ⟨rfl, rfl⟩ | ⟨g, cap, cur, fz, rfl, h2, h3, h4⟩
  · exact run_convert_bytes_nil w src e hs he 0 0 dst hd
  · refine run_convert_bytes_arg w src e hs he g 0 xs.length cap xs rfl (fun i hi => ?_) dst hd
    have hc := RM_cell (d := d) (ok := ok) (base := base) (n := xs.length) (c := cap) (.inr ⟨g, cap, cur, fz, rfl, h2, h3, h4⟩) i (.int .u8 (xs.getD i 0)) (by simp [nums, List.getElem?_eq_getElem (show i < xs.length by omega), List.getD_eq_getElem?_getD])
    have ha : (⟨g, 0, none⟩ : Addr).add i = ⟨g, 0 + i, none⟩ := by unfold Addr.add; split <;> simp_all
    rwa [ha] at hc
section
variable {P : Program} {ops : Array Oper} {rest : List Oper} {o : Oper} {a : Act} {Q : Exit → Act → World → Prop} {Kc : Act → World → Prop} {W w0 : World} {d : Kd Int} {e : TypeId} {ok : Nat → Prop}
/-- The operations, as one step of a region that draws its order, and in a region of a fixed order. -/
theorem stepM_append_str (base : Nat) (hw : Region.wanted o (yielded ops a.tmps) = true) (s x : Operand) (t u e : TypeId)
    (ho : o.op = .call { callee := .builtin .append, args := #[s, x], argTypes := #[t, u] })
    (ht : P.underlying t = some (.slice e)) (hu : P.underlying u = some .string) (hinfo : (P.info? e).map (fun i => (i.zero, i.size, i.bytes)) = some (some (.int .u8 0), 1, 1))
    (v : Value) (xs : List Int) (y : ByteArray) (hs : a.eval s = v) (hx : a.eval x = .string y)
    (HO : RM d e W base ok v xs) (HB : Below base w0 W) (hbase : base ≤ W.heap.size) (hl : xs.length + y.size ≤ 140737488355328)
    (h : ∀ v1 w1, RM d e w1 base ok v1 (xs ++ bytesOf y) → Below base w0 w1 → W.grownBy w1 v.ownBlock → Kc (a.put o.dst v1) w1) :
    if Region.wanted o (yielded ops a.tmps) = true then Oper.wp P o a W Kc Q else Kc (a.put o.dst undef) W := by
  rw [if_pos hw]
  obtain ⟨v1, w1, hr, hown, hg⟩ := RM_run_str (P := P) HO t u o.type ht hu hinfo y hl hbase
  unfold Oper.wp execOp
  simp only [ho, resolve, invoke, builtin, Sem.run_bind, Sem.run_pure, Result.andThen_ok, List.map_toArray, List.map_cons, List.map_nil, hs, hx, hr]
  exact h v1 w1 hown (HB.grown hg hbase (fun k hk => (RM_lt HO k hk).1)) hg
theorem wpM_append_str (base : Nat) (hgd : o.guard = none) (s x : Operand) (t u e : TypeId)
    (ho : o.op = .call { callee := .builtin .append, args := #[s, x], argTypes := #[t, u] })
    (ht : P.underlying t = some (.slice e)) (hu : P.underlying u = some .string) (hinfo : (P.info? e).map (fun i => (i.zero, i.size, i.bytes)) = some (some (.int .u8 0), 1, 1))
    (v : Value) (xs : List Int) (y : ByteArray) (hs : a.eval s = v) (hx : a.eval x = .string y)
    (HO : RM d e W base ok v xs) (HB : Below base w0 W) (hbase : base ≤ W.heap.size) (hl : xs.length + y.size ≤ 140737488355328)
    (h : ∀ v1 w1, RM d e w1 base ok v1 (xs ++ bytesOf y) → Below base w0 w1 → W.grownBy w1 v.ownBlock → wpList P ops Q rest (a.put o.dst v1) w1) :
    wpList P ops Q (o :: rest) a W := by
  refine wpList_plain hgd fun K hK => ?_
  obtain ⟨v1, w1, hr, hown, hg⟩ := RM_run_str (P := P) HO t u o.type ht hu hinfo y hl hbase
  unfold Oper.wp execOp
  simp only [ho, resolve, invoke, builtin, Sem.run_bind, Sem.run_pure, Result.andThen_ok, List.map_toArray, List.map_cons, List.map_nil, hs, hx, hr]
  exact hK _ _ (h v1 w1 hown (HB.grown hg hbase (fun k hk => (RM_lt HO k hk).1)) hg)
theorem cell_new1 (W : World) (p : Int) (e : TypeId) : (W.alloc (.cells #[.int .u8 p] e)).cell? ⟨W.heap.size, 0, none⟩ = some (.int .u8 p) := by
  exact (blk_cell (blk_new W _) 0).trans rfl
theorem RM_append (d' : Kd Int) (base : Nat) (hgd : o.guard = none) (s x : Operand) (t e : TypeId) (z : Value) (bytes : Nat)
    (ho : o.op = .call { callee := .builtin .append, args := #[s, x], argTypes := #[t, t] })
    (ht : P.underlying t = some (.slice e)) (hinfo : (P.info? e).map (fun i => (i.zero, i.size, i.bytes)) = some (some (.int .u8 0), 1, 1)) (hz : z.cells.size = 1) (hs0 : 0 < 1) (hb0 : 0 < bytes)
    (v : Value) (xs : List Int) (p : Int) (cs : List Value) (ok okp : Nat → Prop) (hs : a.eval s = v) (hx : a.eval x = .slice (some ⟨W.heap.size, 0, none⟩) 1 1) (hp : cs = [.int .u8 p]) (hokp : ∀ k, okp k → ok k ∧ some k ≠ v.ownBlock) (hfresh : ∀ k, W.heap.size ≤ k → ok k)
    (HO : RM d' e W base ok v xs) (HB : Below base w0 W) (hbase : base ≤ W.heap.size) (hl : (xs.length + 1) * 1 ≤ 140737488355328)
    (h : ∀ v1 w1, RM d' e w1 base ok v1 (xs ++ [p]) → Below base w0 w1 → W.grownBy w1 v.ownBlock → (v1.ownBlock = v.ownBlock ∨ ∃ b, v1.ownBlock = some b ∧ W.heap.size ≤ b) → wpList P ops Q rest (a.put o.dst v1) w1) :
    wpList P ops Q (o :: rest) a (W.alloc (.cells cs.toArray e)) := by
  subst hp
  refine wpList_plain hgd fun K hK => ?_
  obtain ⟨v1, w1, hr, hown, hg, hat⟩ := RM_run_one (P := P) (RM_alloc HO (.cells #[.int .u8 p] e)) t o.type ht hinfo p ⟨W.heap.size, 0, none⟩ 1 (cell_new1 W p e) (by omega) (by simp; omega)
  unfold Oper.wp execOp
  simp only [ho, resolve, invoke, builtin, Sem.run_bind, Sem.run_pure, Result.andThen_ok, List.map_toArray, List.map_cons, List.map_nil, hs, hx, hr]
  refine hK _ _ (h v1 w1 hown ((HB.alloc hbase _).grown hg (by simp; omega) (fun k hk => (RM_lt HO k hk).1)) (World.grownBy.trans (World.grownBy_alloc W _ _) hg) ?_)
  exact hat.imp id (fun ⟨b, hb, hlb⟩ => ⟨b, hb, by simp at hlb; omega⟩)
/-- []byte(s). -/
theorem conv_event (d' : Kd Int) (base : Nat) (hgd : o.guard = none) {N : Tmp} (_hd : o.dst = some N) (x : Operand) (src t e : TypeId) {u : TypeDesc} (ho : o.op = .convert src t x) (hs : P.underlying src = some u) (ht : P.underlying t = some (.slice e)) (he : P.underlying e = some (.int .u8)) (y : ByteArray) (hx : a.eval x = .string y) (ok : Nat → Prop)
    (HB : Below base w0 W) (hbase : base ≤ W.heap.size) (hl : y.size ≤ 9223372036854775807)
    (h : ∀ v1 w1, RM d' e w1 base ok v1 (bytesOf y) → Below base w0 w1 → W.grownBy w1 none → (∃ b, v1.ownBlock = some b ∧ W.heap.size ≤ b) → wpList P ops Q rest (a.put o.dst v1) w1) : wpList P ops Q (o :: rest) a W := by
  refine wpList_plain hgd fun K hK => ?_
  obtain ⟨v1, w1, hr, hR, hb, hn⟩ := RM_run_conv (P := P) (d := d') (ok := ok) (w := W) (base := base) src t y hs ht he hbase hl
  unfold Oper.wp execOp
  simp only [ho, hx, Sem.run_bind, Sem.run_pure, Result.andThen_ok, hr]
  exact hK _ _ (h v1 w1 hR (HB.trans (hb.mono hbase)) ⟨hb.os, hb.tape, hb.output, hb.size, fun k hk _ => hb.block k hk⟩ hn)
/-- A literal row converted to its own type: it is marked. -/
theorem mark_event (d' : Kd Int) (base : Nat) (hgd : o.guard = none) {N : Tmp} (_hd : o.dst = some N) (x : Operand) (t e : TypeId) (ho : o.op = .convert t t x) (ht : P.underlying t = some (.slice e)) (he : P.underlying e = some (.int .u8)) (v : Value) (xs : List Int) (hx : a.eval x = v) (ok : Nat → Prop)
    (HO : Kd.R (Kd.int .u8) e W base ok v xs) (hne : 0 < xs.length) (HB : Below base w0 W)
    (h : ∀ w1, RM d' e w1 base ok v xs → Below base w0 w1 → W.grownBy w1 v.ownBlock → wpList P ops Q rest (a.put o.dst v) w1) : wpList P ops Q (o :: rest) a W := by
  have hown := Kd.own_of_R HO
  rcases hown.2 with ⟨_, hz⟩ | ⟨g, cap, cur, rfl, h2, h3, h4, h5, h6, h7⟩
  · omega
  · have hsh : W.shape? g = some (e, cur.size) := by simp [World.shape?, h3]
    have hr : (convert t t (.slice (some ⟨g, 0, none⟩) xs.length cap)).run P W = .ok (.slice (some ⟨g, 0, none⟩) xs.length cap) (W.freeze ⟨g, cur.size, none⟩ 1) := by
      simp [convert, run_underlying ht, run_underlying he, markStringish, hsh]
    have hnew : (W.freeze ⟨g, cur.size, none⟩ 1).heap[g]? = some (.cells cur e (cur.size, cur.size + 1)) := by
      simp [World.freeze, Array.getElem?_modify, h3]
    have hoth : ∀ k, k ≠ g → (W.freeze ⟨g, cur.size, none⟩ 1).heap[k]? = W.heap[k]? := by
      intro k hk
      simp [World.freeze, Array.getElem?_modify, Ne.symm hk]
    have hsz : (W.freeze ⟨g, cur.size, none⟩ 1).heap.size = W.heap.size := by simp [World.freeze]
    have hgr : W.grownBy (W.freeze ⟨g, cur.size, none⟩ 1) (some g) := ⟨rfl, rfl, rfl, by rw [hsz]; exact Nat.le_refl _, fun k _ hk => hoth k (fun e => hk (by rw [e]))⟩
    refine wpList_plain hgd fun K hK => ?_
    unfold Oper.wp execOp
    simp only [ho, hx, Sem.run_bind, Sem.run_pure, Result.andThen_ok, hr]
    refine hK _ _ (h _ (.inr ⟨g, cap, cur, _, rfl, h2, hnew, .inr (Nat.le_refl _), h4, h5, by simpa using h6, (by rw [Nat.mul_one] at h7; exact h7)⟩) ⟨hgr.os.trans HB.os, hgr.tape.trans HB.tape, hgr.output.trans HB.output, by rw [hsz]; exact HB.size, fun k hk => (hoth k (by omega)).trans (HB.block k hk)⟩ hgr)
end
/-! ### A window of such a row, that is read alone -/
def QM (d : Kd Int) (e : TypeId) (w : World) (base : Nat) (ok : Nat → Prop) (v : Value) (xs : List Int) : Prop :=
  (∀ k, v.ownBlock = some k → ok k ∧ base ≤ k ∧ ∃ cur fz, w.heap[k]? = some (.cells cur e fz)) ∧ ∃ A c, v = .slice A xs.length c ∧ xs.length ≤ c ∧ ReadsOf (Value.int .u8) (0 : Int) w A xs.length xs
section
variable {d : Kd Int} {e : TypeId} {w w1 : World} {base : Nat} {ok ok' : Nat → Prop} {v : Value} {xs : List Int}
theorem QM_of_RM (h : RM d e w base ok v xs) : QM d e w base (fun _ => True) v xs := by
  have hh := h
  rcases h with ⟨rfl, rfl⟩ | ⟨g, cap, cur, fz, rfl, h2, h3, h4, h5, h6, h7, h8⟩
  · refine ⟨fun k hk => by simp [Value.ownBlock] at hk, none, 0, rfl, Nat.le_refl _, rfl, by simp, fun hp => absurd hp (by simp)⟩
  · refine ⟨fun k hk => ?_, some ⟨g, 0, none⟩, cap, rfl, h5, rfl, by unfold maxLen at h6; omega, fun hp => ⟨_, rfl, fun j hj => ?_⟩⟩
    · simp [Value.ownBlock] at hk
      subst hk
      exact ⟨trivial, h2, cur, fz, h3⟩
    · refine RM_cell hh j _ ?_
      unfold nums
      rw [List.getElem?_map, List.getElem?_eq_getElem hj, List.getD_eq_getElem?_getD, List.getElem?_eq_getElem hj]
      rfl
theorem QM_nil (d : Kd Int) (e : Nat) (w : World) (base : Nat) (ok : Nat → Prop) : QM d e w base ok (.slice none 0 0) [] :=
  ⟨fun k hk => by simp [Value.ownBlock] at hk, none, 0, rfl, Nat.le_refl _, rfl, by simp, fun hp => absurd hp (by simp)⟩
theorem QM_step (h : QM d e w base ok v xs) (hm : ∀ k, ok k → (∃ cur fz, w.heap[k]? = some (.cells cur e fz)) → w1.heap[k]? = w.heap[k]?) : QM d e w1 base ok v xs := by
  obtain ⟨h0, A, c, rfl, hl, h1, h2, h3⟩ := h
  refine ⟨fun k hk => ?_, A, c, rfl, hl, h1, h2, fun hp => ?_⟩
  · obtain ⟨a1, a2, cur, fz, a3⟩ := h0 k hk
    exact ⟨a1, a2, cur, fz, (hm k a1 ⟨cur, fz, a3⟩).trans a3⟩
  · obtain ⟨ad, rfl, hc⟩ := h3 hp
    obtain ⟨a1, a2, cur, fz, a3⟩ := h0 ad.block rfl
    refine ⟨ad, rfl, fun j hj => ?_⟩
    rw [← hc j hj]
    have hb : ∀ (a : Addr) (n : Nat), (a.add n).block = a.block := fun a n => by unfold Addr.add; split <;> rfl
    have := hm ad.block a1 ⟨cur, fz, a3⟩
    unfold World.cell?
    rw [hb, this]
theorem QM_mono (h : QM d e w base ok v xs) (hk : ∀ k, ok k → ok' k) : QM d e w base ok' v xs := ⟨fun k hb => by
  obtain ⟨a1, a2⟩ := h.1 k hb
  exact ⟨hk k a1, a2⟩, h.2⟩
theorem QM_lower {base' : Nat} (h : QM d e w base ok v xs) (hb : base' ≤ base) : QM d e w base' ok v xs := ⟨fun k hk => by
  obtain ⟨a1, a2, a3⟩ := h.1 k hk
  exact ⟨a1, Nat.le_trans hb a2, a3⟩, h.2⟩
theorem QM_below (h : QM d e w base ok v xs) (hb : Below w.heap.size w w1) : QM d e w1 base ok v xs := QM_step h (fun k _ ⟨_, _, hk⟩ => hb.block k (Array.getElem?_eq_some_iff.1 hk).1)
theorem QM_alloc (h : QM d e w base ok v xs) (o : Obj) : QM d e (w.alloc o) base ok v xs := QM_below h (below_alloc (Below.refl _ _) o)
theorem QM_drew (h : QM d e w base ok v xs) : QM d e w.drew base ok v xs := QM_below h (below_drew (Below.refl _ _))
theorem QM_drewN (h : QM d e w base ok v xs) (m : Nat) : QM d e (w.drewN m) base ok v xs := QM_below h (pw_below_drewN (Below.refl _ _) m)
theorem QM_far (h : QM d e w base ok v xs) {p : Addr} (hok : ∀ k, ok k → k ≠ p.block) (u : Value) : QM d e (w.setCell p u) base ok v xs := QM_step h (fun k ho _ => Below.heap_setCell w p u k (hok k ho))
theorem QM_types (h : QM d e w base ok v xs) {g t : Nat} {cells : Array Value} (hb : w.heap[g]? = some (.cells cells t (0, 0))) (ht : ∀ q, q ∈ e :: d.E → q ≠ t) : QM d e w base (fun k => ok k ∧ k ≠ g) v xs :=
  ⟨fun k hk => by
    obtain ⟨a1, a2, cur, fz, a3⟩ := h.1 k hk
    refine ⟨⟨a1, ?_⟩, a2, cur, fz, a3⟩
    rintro rfl
    rw [a3] at hb
    injection hb with hb
    injection hb with _ hb
    exact ht e (by simp) hb, h.2⟩
theorem QM_over' {e' : Nat} {u : Value} (h : QM d e w base ok v xs) (hty : ∀ k, u.ownBlock = some k → ∃ cells, w.heap[k]? = some (.cells cells e' (0, 0))) (ht : ∀ q, q ∈ e :: d.E → q ≠ e') (hg : w.grownBy w1 u.ownBlock) : QM d e w1 base ok v xs :=
  QM_step h (fun k _ ⟨cur, fz, hk⟩ => hg.block k (Array.getElem?_eq_some_iff.1 hk).1 (fun he => by
    obtain ⟨cells, hc⟩ := hty k he.symm
    rw [hk] at hc
    injection hc with hc
    injection hc with _ hc
    exact ht e (by simp) hc))
theorem QM_slice (h : QM d e w base ok v xs) : ∃ A c, v = .slice A xs.length c ∧ xs.length ≤ c := by
  obtain ⟨_, A, c, h1, h2, _⟩ := h
  exact ⟨A, c, h1, h2⟩
theorem QM_reads' {A : Option Addr} {n c : Nat} (h : QM d e w base ok (.slice A n c) xs) : n = xs.length ∧ n ≤ c ∧ Kd.C (Kd.int .u8) w A xs.length xs := by
  obtain ⟨_, A', c', h1, h2, h3⟩ := h
  injection h1 with h1 h4 h5
  subst h1 h4 h5
  exact ⟨rfl, h2, Kd.C_of_reads (enc := Value.int .u8) (d := (0 : Int)) h3⟩
theorem QM_drop {A : Option Addr} {k n c : Nat} (h : QM d e w base ok (.slice A n c) xs) (hk : k ≤ xs.length) : QM d e w base ok (.slice (if c = k then A else A.map (·.add (k * (Kd.int .u8).sz))) (n - k) (c - k)) (xs.drop k) := by
  obtain ⟨h0, A', c', h1, h2, h3, h4, h5⟩ := h
  injection h1 with h1 h6 h7
  subst h1 h6 h7
  have hb : (Value.slice (if c = k then A else A.map (·.add (k * (Kd.int .u8).sz))) (xs.length - k) (c - k)).ownBlock = (Value.slice A xs.length c).ownBlock := by
    split
    · cases A <;> rfl
    · cases A
      · rfl
      · rename_i ad
        show some (ad.add _).block = some ad.block
        congr 1
        unfold Addr.add
        split <;> rfl
  refine ⟨fun j hj => h0 j (by rw [← hb]; exact hj), _, c - k, by rw [List.length_drop], by rw [List.length_drop]; omega, rfl, by rw [List.length_drop]; omega, fun hp => ?_⟩
  rw [List.length_drop] at hp
  obtain ⟨ad, rfl, hc⟩ := h5 (by omega)
  rw [if_neg (by omega)]
  refine ⟨ad.add (k * 1), rfl, fun j hj => ?_⟩
  rw [List.length_drop] at hj
  rw [add_add, show k * 1 + j = k + j by omega, hc (k + j) (by omega)]
  congr 2
  rw [List.getD_eq_getElem?_getD, List.getD_eq_getElem?_getD, List.getElem?_drop]
end
/-! ### Rows whose mark lies behind the last cell: written as any other -/
/-- A row of bytes of which no element is frozen. -/
def RE (d : Kd Int) (e : TypeId) (w : World) (base : Nat) (ok : Nat → Prop) (v : Value) (xs : List Int) : Prop :=
  (v = .slice none 0 0 ∧ xs = []) ∨
  ∃ g cap cur fz, v = .slice (some ⟨g, 0, none⟩) xs.length cap ∧ base ≤ g ∧ w.heap[g]? = some (.cells cur e fz) ∧ (fz.2 = 0 ∨ cur.size ≤ fz.1) ∧ xs.length ≤ cap ∧ cap ≤ maxLen ∧ cur.size = cap ∧ cur.toList.take xs.length = nums .u8 xs
section
variable {d : Kd Int} {e : TypeId} {w w1 : World} {base : Nat} {ok : Nat → Prop} {v : Value} {xs : List Int}
theorem RM_of_RE (h : RE d e w base ok v xs) : RM d e w base ok v xs := by
  rcases h with h | ⟨g, cap, cur, fz, h1, h2, h3, h4, rest⟩
  · exact .inl h
  · exact .inr ⟨g, cap, cur, fz, h1, h2, h3, h4.elim (fun h => .inl (by omega)) .inr, rest⟩
theorem RE_step (h : RE d e w base ok v xs) (hm : ∀ k, v.ownBlock = some k → k < w.heap.size → w1.heap[k]? = w.heap[k]?) : RE d e w1 base ok v xs := by
  rcases h with h | ⟨g, cap, cur, fz, rfl, h2, h3, rest⟩
  · exact .inl h
  · exact .inr ⟨g, cap, cur, fz, rfl, h2, (hm g (by simp [Value.ownBlock]) (Array.getElem?_eq_some_iff.1 h3).1).trans h3, rest⟩
theorem RE_below (h : RE d e w base ok v xs) (hb : Below w.heap.size w w1) : RE d e w1 base ok v xs := RE_step h (fun k _ hk => hb.block k hk)
theorem RE_alloc (h : RE d e w base ok v xs) (o : Obj) : RE d e (w.alloc o) base ok v xs := RE_below h (below_alloc (Below.refl _ _) o)
theorem RE_drew (h : RE d e w base ok v xs) : RE d e w.drew base ok v xs := RE_below h (below_drew (Below.refl _ _))
theorem RE_drewN (h : RE d e w base ok v xs) (m : Nat) : RE d e (w.drewN m) base ok v xs := RE_below h (pw_below_drewN (Below.refl _ _) m)
theorem RE_mono {ok' : Nat → Prop} (h : RE d e w base ok v xs) (_ : ∀ k, ok k → ok' k) : RE d e w base ok' v xs := h
theorem RE_lower {base' : Nat} (h : RE d e w base ok v xs) (hb : base' ≤ base) : RE d e w base' ok v xs := by
  rcases h with h | ⟨g, cap, cur, fz, h1, h2, rest⟩
  · exact .inl h
  · exact .inr ⟨g, cap, cur, fz, h1, Nat.le_trans hb h2, rest⟩
theorem RE_slice (h : RE d e w base ok v xs) : ∃ A c, v = .slice A xs.length c := RM_slice (RM_of_RE h)
theorem RE_reads' {A : Option Addr} {n c : Nat} (h : RE d e w base ok (.slice A n c) xs) : n = xs.length ∧ n ≤ c ∧ Kd.C (Kd.int .u8) w A xs.length xs := RM_reads' (RM_of_RE h)
theorem RE_form (h : RE d e w base ok v xs) (hp : 0 < xs.length) : ∃ g cap, v = .slice (some ⟨g, 0, none⟩) xs.length cap ∧ base ≤ g ∧ g < w.heap.size ∧ ∃ cells : Nat, cells = cells := by
  rcases h with ⟨_, rfl⟩ | ⟨g, cap, cur, fz, h1, h2, h3, rest⟩
  · exact absurd hp (by simp)
  · exact ⟨g, cap, h1, h2, (Array.getElem?_eq_some_iff.1 h3).1, 0, rfl⟩
theorem RE_celln {g n cap : Nat} (d0 : Int) (h : RE d e w base ok (.slice (some ⟨g, 0, none⟩) n cap) xs) (i : Int) (h0 : 0 ≤ i) (hi : i < n) : w.cell? ⟨g, i.toNat, none⟩ = some (.int .u8 (rd xs i)) ∧ w.frozen? ⟨g, i.toNat, none⟩ = false := by
  obtain ⟨hn, _⟩ := RE_reads' h
  have hlt : i.toNat < xs.length := by omega
  refine ⟨?_, ?_⟩
  · have hc := RM_cell (RM_of_RE h) i.toNat (.int .u8 (rd xs i)) (by simp [nums, rd, List.getElem?_eq_getElem hlt, List.getD_eq_getElem?_getD])
    have ha : (⟨g, 0, none⟩ : Addr).add i.toNat = ⟨g, i.toNat, none⟩ := by unfold Addr.add; split <;> simp_all
    rwa [ha] at hc
  · rcases h with ⟨h1, _⟩ | ⟨g', c', cur, fz, h1, h2, h3, h4, h5, h6, h7, h8⟩
    · cases h1
    · injection h1 with h1 _ _
      injection h1 with h1
      injection h1 with h1 _ _
      subst h1
      obtain ⟨lo, hi'⟩ := fz
      simp only [World.frozen?, h3, Bool.and_eq_false_iff, decide_eq_false_iff_not]
      simp only at h4
      omega
theorem RE_putg {g n cap : Nat} (h : RE d e w base ok (.slice (some ⟨g, 0, none⟩) n cap) xs) (i : Int) (x : Int) : RE d e (w.setCell ⟨g, i.toNat, none⟩ (.int .u8 x)) base ok (.slice (some ⟨g, 0, none⟩) n cap) (xs.set i.toNat x) ∧ w.grownBy (w.setCell ⟨g, i.toNat, none⟩ (.int .u8 x)) (some g) := by
  rcases h with ⟨h1, _⟩ | ⟨g', c', cur, fz, h1, h2, h3, h4, h5, h6, h7, h8⟩
  · cases h1
  · injection h1 with h1 hn hc
    injection h1 with h1
    injection h1 with h1 _ _
    subst h1 hn hc
    have hnew : (w.setCell ⟨g, i.toNat, none⟩ (.int .u8 x)).heap[g]? = some (.cells (cur.setIfInBounds i.toNat (.int .u8 x)) e fz) := by
      rw [setCell_eq_setRow w g i.toNat cur e fz _ h3]
      exact setRow_heap w g cur _ e fz h3
    refine ⟨.inr ⟨g, cap, _, fz, by rw [List.length_set], h2, hnew, by rw [Array.size_setIfInBounds]; exact h4, by rw [List.length_set]; exact h5, h6, by rw [Array.size_setIfInBounds]; exact h7, ?_⟩, ⟨rfl, rfl, rfl, by simp, fun k _ hk => Below.heap_setCell w _ _ k (fun e => hk (by rw [e]))⟩⟩
    rw [List.length_set, Array.toList_setIfInBounds, List.take_set, h8]
    simp [nums, List.map_set]
theorem RE_typed (h : RE d e w base ok v xs) : ∀ k, v.ownBlock = some k → ∃ cells fz, w.heap[k]? = some (.cells cells e fz) := by
  intro k hk
  rcases h with ⟨rfl, _⟩ | ⟨g, cap, cur, fz, rfl, h2, h3, rest⟩
  · simp [Value.ownBlock] at hk
  · simp [Value.ownBlock] at hk
    subst hk
    exact ⟨cur, fz, h3⟩
theorem RE_ne (h : RE d e w base ok v xs) {g t : Nat} {cells : Array Value} (hb : w.heap[g]? = some (.cells cells t (0, 0))) (ht : e ≠ t) : some g ≠ v.ownBlock := by
  intro he
  obtain ⟨cells', fz, hc⟩ := RE_typed h g he.symm
  rw [hc] at hb
  injection hb with hb
  injection hb with _ hb
  exact ht hb
theorem RE_far (h : RE d e w base ok v xs) {p : Addr} (hok : some p.block ≠ v.ownBlock) (u : Value) : RE d e (w.setCell p u) base ok v xs := RE_step h (fun k hk _ => Below.heap_setCell w p u k (fun he => hok (by rw [← he, hk])))
theorem RE_over {α : Type} {d' : Kd α} {e' : Nat} {b' : Nat} {ok' : Nat → Prop} {u : Value} {ys : List α} (h : d'.R e' w b' ok' u ys) (hv : RE d e w base ok v xs) (ht : ∀ q, q ∈ e' :: d'.E → q ≠ e) (hg : w.grownBy w1 v.ownBlock) : d'.R e' w1 b' ok' u ys := by
  refine Kd.R_mono (Kd.R_move (Kd.R_bound h) (fun k hk => hg.block k hk.2.2.1 (fun he => ?_))) (fun _ hk => hk.1)
  obtain ⟨_, _, _, q, hq, cells, hc⟩ := hk
  obtain ⟨cells', fz, hc'⟩ := RE_typed hv k he.symm
  rw [hc] at hc'
  injection hc' with hc'
  injection hc' with _ hc'
  exact ht q hq hc'
theorem RE_string {P : Program} {e' src dst : TypeId} (hs : P.underlying src = some (.slice e)) (he : P.underlying e = some (.int .u8)) (hd : P.underlying dst = some .string)
    (h : RE d e' w base ok v xs) : (convert src dst v).run P w = .ok (.string (strOfNums xs)) w := RM_string hs he hd (RM_of_RE h)
theorem RE_run_conv {P : Program} (src t : TypeId) (s : ByteArray) {u : TypeDesc} (hs : P.underlying src = some u) (ht : P.underlying t = some (.slice e)) (he : P.underlying e = some (.int .u8)) (hbase : base ≤ w.heap.size) (hl : s.size ≤ 9223372036854775807) :
    ∃ v1 w1, (convert src t (.string s)).run P w = .ok v1 w1 ∧ RE d e w1 base ok v1 (bytesOf s) ∧ Below w.heap.size w w1 ∧ (∃ b, v1.ownBlock = some b ∧ w.heap.size ≤ b) := by
  refine ⟨_, _, Lib.run_convert_string_bytes w src t e s hs ht he, ?_, ?_, ⟨w.heap.size, by simp [Value.ownBlock], Nat.le_refl _⟩⟩
  · have hge : s.size ≤ grownCap w s.size 0 e := by simpa using grownCap_ge w s.size 0 e
    have hcm2 : grownCap w s.size 0 e ≤ maxLen := grownCap_le_maxLen w _ 0 e (by unfold maxLen; omega)
    have hsz : (Lib.bytesCells w e s).size = grownCap w s.size 0 e := by
      unfold Lib.bytesCells
      simp only [Array.size_append, Array.size_map, Array.size_replicate]
      show s.size + _ = _
      omega
    refine .inr ⟨w.heap.size, _, _, _, by rw [bytesOf_length], hbase, Lib.bytesWorld_at_new w e s, .inr (Nat.le_refl _), by rw [bytesOf_length]; exact hge, hcm2, hsz, ?_⟩
    rw [← strCells_nums, bytesOf_length]
    unfold Lib.bytesCells Lib.strCells
    rw [Array.toList_append, Array.toList_map]
    have hl2 : s.size = (s.data.toList.map fun b => Value.int .u8 b.toNat).length := by simp
    rw [List.take_append_of_le_length (by rw [← hl2]; exact Nat.le_refl _), hl2, List.take_length]
  · refine ⟨rfl, rfl, rfl, by rw [Lib.bytesWorld_size]; omega, fun k hk => Lib.bytesWorld_at_old w e s k hk⟩
end
section
variable {P : Program} {ops : Array Oper} {rest : List Oper} {o : Oper} {a : Act} {Q : Exit → Act → World → Prop} {W w0 : World}
theorem convE_event (d' : Kd Int) (base : Nat) (hgd : o.guard = none) {N : Tmp} (_hd : o.dst = some N) (x : Operand) (src t e : TypeId) {u : TypeDesc} (ho : o.op = .convert src t x) (hs : P.underlying src = some u) (ht : P.underlying t = some (.slice e)) (he : P.underlying e = some (.int .u8)) (y : ByteArray) (hx : a.eval x = .string y) (ok : Nat → Prop)
    (HB : Below base w0 W) (hbase : base ≤ W.heap.size) (hl : y.size ≤ 9223372036854775807)
    (h : ∀ v1 w1, RE d' e w1 base ok v1 (bytesOf y) → Below base w0 w1 → W.grownBy w1 none → (∃ b, v1.ownBlock = some b ∧ W.heap.size ≤ b) → wpList P ops Q rest (a.put o.dst v1) w1) : wpList P ops Q (o :: rest) a W := by
  refine wpList_plain hgd fun K hK => ?_
  obtain ⟨v1, w1, hr, hR, hb, hn⟩ := RE_run_conv (P := P) (d := d') (ok := ok) (w := W) (base := base) src t y hs ht he hbase hl
  unfold Oper.wp execOp
  simp only [ho, hx, Sem.run_bind, Sem.run_pure, Result.andThen_ok, hr]
  exact hK _ _ (h v1 w1 hR (HB.trans (hb.mono hbase)) ⟨hb.os, hb.tape, hb.output, hb.size, fun k hk _ => hb.block k hk⟩ hn)
end
end Go.Proofs.YtjjabjajoefgdaaM
