/- Rows of bytes of a call's own that a conversion may have marked behind their end: appended to, read and written as any other row. Conditions: those that each lemma names.
   Own text of this session. Ytbonmhgihedjpaa: the seat's Name. -/
import Derived.Lib.FrozenHead2
import Derived.Lib.ConvBytes
import Derived.Test.YtbonmhgihedjpaaXWMore
namespace Go.Proofs.YtbonmhgihedjpaaM
open Go.RowKit Go.Proofs.YtbonmhgihedjpaaW.PrintWords Go.Proofs.YtbonmhgihedjpaaW.PrintMore
set_option linter.unusedVariables false
set_option linter.unusedSimpArgs false
def RM (d : Kd Int) (e : TypeId) (w : World) (base : Nat) (ok : Nat → Prop) (v : Value) (xs : List Int) : Prop :=
  (v = .slice none 0 0 ∧ xs = []) ∨
  ∃ g cap cur fz, v = .slice (some ⟨g, 0, none⟩) xs.length cap ∧ base ≤ g ∧ w.heap[g]? = some (.cells cur e fz) ∧ (fz.2 ≤ xs.length ∨ cur.size ≤ fz.1) ∧ xs.length ≤ cap ∧ cap ≤ maxLen ∧ cur.size = cap ∧ cur.toList.take xs.length = nums .u8 xs
section
variable {d : Kd Int} {e : TypeId} {w w1 : World} {base : Nat} {ok : Nat → Prop} {v : Value} {xs : List Int}
theorem RM_of_own (h : w.ownsRow base e 1 v xs.length (nums .u8 xs)) : RM d e w base ok v xs := by
  rcases h.2 with ⟨h1, h2⟩ | ⟨g, cap, cur, h1, h2, h3, h4, h5, h6, h7⟩
  · exact .inl ⟨h1, List.length_eq_zero_iff.1 h2⟩
  · exact .inr ⟨g, cap, cur, (0, 0), h1, h2, h3, .inl (Nat.zero_le _), h4, h5, by simpa using h6, by simpa using h7⟩
theorem RM_step (h : RM d e w base ok v xs) (hm : ∀ k, v.ownBlock = some k → k < w.heap.size → w1.heap[k]? = w.heap[k]?) : RM d e w1 base ok v xs := by
  rcases h with h | ⟨g, cap, cur, fz, rfl, h2, h3, rest⟩
  · exact .inl h
  · exact .inr ⟨g, cap, cur, fz, rfl, h2, (hm g (by simp [Value.ownBlock]) (Array.getElem?_eq_some_iff.1 h3).1).trans h3, rest⟩
theorem RM_below (h : RM d e w base ok v xs) (hb : Below w.heap.size w w1) : RM d e w1 base ok v xs := RM_step h (fun k _ hk => hb.block k hk)
theorem RM_alloc (h : RM d e w base ok v xs) (o : Obj) : RM d e (w.alloc o) base ok v xs := RM_below h (below_alloc (Below.refl _ _) o)
theorem RM_drew (h : RM d e w base ok v xs) : RM d e w.drew base ok v xs := RM_below h (below_drew (Below.refl _ _))
theorem RM_drewN (h : RM d e w base ok v xs) (m : Nat) : RM d e (w.drewN m) base ok v xs := RM_below h (pw_below_drewN (Below.refl _ _) m)
theorem RM_lower {base' : Nat} (h : RM d e w base ok v xs) (hb : base' ≤ base) : RM d e w base' ok v xs := by
  rcases h with h | ⟨g, cap, cur, fz, h1, h2, rest⟩
  · exact .inl h
  · exact .inr ⟨g, cap, cur, fz, h1, Nat.le_trans hb h2, rest⟩
theorem RM_slice (h : RM d e w base ok v xs) : ∃ A c, v = .slice A xs.length c := by
  rcases h with ⟨rfl, rfl⟩ | ⟨g, cap, cur, fz, rfl, _⟩
  · exact ⟨_, _, rfl⟩
  · exact ⟨_, _, rfl⟩
theorem RM_lt (h : RM d e w base ok v xs) : ∀ k, v.ownBlock = some k → base ≤ k ∧ k < w.heap.size := by
  intro k hk
  rcases h with ⟨rfl, _⟩ | ⟨g, cap, cur, fz, rfl, h2, h3, _⟩
  · simp [Value.ownBlock] at hk
  · simp [Value.ownBlock] at hk
    subst hk
    exact ⟨h2, (Array.getElem?_eq_some_iff.1 h3).1⟩
theorem RM_cell {g : Nat} {n c : Nat} (h : RM d e w base ok (.slice (some ⟨g, 0, none⟩) n c) xs) (j : Nat) (u : Value) (hu : (nums .u8 xs)[j]? = some u) : w.cell? ((⟨g, 0, none⟩ : Addr).add j) = some u := by
  rcases h with ⟨h1, _⟩ | ⟨g', cap, cur, fz, h1, h2, h3, h4, h5, h6, h7, h8⟩
  · cases h1
  · injection h1 with h1 _ _
    injection h1 with h1
    injection h1 with h1 _ _
    subst h1
    have hadd : (⟨g, 0, none⟩ : Addr).add j = ⟨g, j, none⟩ := by unfold Addr.add; split <;> simp_all
    rw [hadd, cell_of_row w g j cur e fz h3]
    rw [← h8, List.getElem?_take] at hu
    split at hu
    · simpa using hu
    · cases hu
end
theorem store_mark (P : Program) (g o : Nat) (t : TypeId) (fz : Nat × Nat) : ∀ (vs : List Value) (i : Nat) (cur : Array Value) (w : World), w.heap[g]? = some (.cells cur t fz) → cur.size ≤ fz.1 → o + i + vs.length ≤ cur.size → (∀ v ∈ vs, v.oneCell' = true) →
    (storeCells ⟨g, o, none⟩ vs i).run P w = .ok () (w.setRow g (cur.toList.take (o + i) ++ vs ++ cur.toList.drop (o + i + vs.length)).toArray) := by
  intro vs
  induction vs with
  | nil =>
    intro i cur w hg _ _ _
    simp only [storeCells, List.append_nil, List.length_nil, Nat.add_zero, List.take_append_drop, Array.toArray_toList]
    rw [setRow_self w g cur t fz hg]
    rfl
  | cons x rest ih =>
    intro i cur w hg hfz hl h1
    have hi : o + i < cur.size := by simp at hl; omega
    have hadd : (⟨g, o, none⟩ : Addr).add i = ⟨g, o + i, none⟩ := by unfold Addr.add; split <;> simp_all
    have hcell : w.cell? ⟨g, o + i, none⟩ = some cur[o + i] := by simp [World.cell?, hg, hi]
    have hfro : w.frozen? ⟨g, o + i, none⟩ = false := by
      obtain ⟨lo, hi'⟩ := fz
      simp only [World.frozen?, hg, Bool.and_eq_false_iff, decide_eq_false_iff_not]
      left
      simp only at hfz
      omega
    have hst : (store ((⟨g, o, none⟩ : Addr).add i) x).run P w = .ok () (w.setRow g (cur.setIfInBounds (o + i) x)) := by
      rw [hadd, run_store P w _ x _ (h1 x (by simp)), hcell]
      simp [hfro, setCell_eq_setRow w g (o + i) cur t fz x hg]
    have ih2 := ih (i + 1) (cur.setIfInBounds (o + i) x) (w.setRow g (cur.setIfInBounds (o + i) x)) (setRow_heap w g cur _ t _ hg) (by simpa using hfz) (by simp at hl ⊢; omega) (fun y hy => h1 y (by simp [hy]))
    simp only [storeCells, Sem.run_bind, hst, Result.andThen_ok, ih2, setRow_setRow]
    congr 3
    have e := list_seg_step cur.toList (o + i) x rest (by simp at hl ⊢; omega)
    simpa [Array.toList_setIfInBounds, Nat.add_assoc] using e
theorem store_either (P : Program) (g o : Nat) (t : TypeId) (fz : Nat × Nat) (vs : List Value) (cur : Array Value) (w : World) (hg : w.heap[g]? = some (.cells cur t fz)) (hfz : fz.2 ≤ o ∨ cur.size ≤ fz.1) (hl : o + vs.length ≤ cur.size) (h1 : ∀ v ∈ vs, v.oneCell' = true) :
    (storeCells ⟨g, o, none⟩ vs 0).run P w = .ok () (w.setRow g (cur.toList.take o ++ vs ++ cur.toList.drop (o + vs.length)).toArray) := by
  rcases hfz with h | h
  · simpa using run_storeCells_atF P g o t fz vs 0 cur w hg (by simpa using h) (by simpa using hl) h1
  · simpa using store_mark P g o t fz vs 0 cur w hg h (by simpa using hl) h1
theorem RM_room {d : Kd Int} {e : TypeId} {w : World} {base : Nat} {ok : Nat → Prop} {xs ys : List Int} {g cap : Nat} {cur : Array Value} {fz : Nat × Nat} (hbg : base ≤ g) (hg : w.heap[g]? = some (.cells cur e fz)) (hfz : fz.2 ≤ xs.length ∨ cur.size ≤ fz.1) (hroom : xs.length + ys.length ≤ cap) (hcm : cap ≤ maxLen) (hcs : cur.size = cap) (ht : cur.toList.take xs.length = nums .u8 xs) :
    RM d e (w.setRow g (cur.toList.take xs.length ++ nums .u8 ys ++ cur.toList.drop (xs.length + ys.length)).toArray) base ok (.slice (some ⟨g, 0, none⟩) (xs.length + ys.length) cap) (xs ++ ys) ∧
      w.grownBy (w.setRow g (cur.toList.take xs.length ++ nums .u8 ys ++ cur.toList.drop (xs.length + ys.length)).toArray) (some g) := by
  have hny : (nums .u8 ys).length = ys.length := nums_length _ _
  have hsz : (cur.toList.take xs.length ++ nums .u8 ys ++ cur.toList.drop (xs.length + ys.length)).toArray.size = cur.size := by
    simp only [List.size_toArray, List.length_append, List.length_take, List.length_drop, Array.length_toList, hny]
    omega
  refine ⟨.inr ⟨g, cap, _, fz, by rw [List.length_append], hbg, setRow_heap w g cur _ e _ hg, ?_, by rw [List.length_append]; exact hroom, hcm, by rw [hsz]; exact hcs, ?_⟩, ⟨rfl, rfl, rfl, by simp, fun k _ hk => setRow_other w g k _ (fun e => hk (by rw [e]))⟩⟩
  · rw [hsz, List.length_append]
    omega
  · have h2 : (xs ++ ys).length = (nums .u8 xs ++ nums .u8 ys).length := by simp [nums]
    rw [ht, nums_append, h2]
    exact List.take_left
theorem RM_grow {d : Kd Int} {e : TypeId} {w : World} {base : Nat} {ok : Nat → Prop} {xs ys : List Int} {cap : Nat} (hbase : base ≤ w.heap.size) (h63 : xs.length + ys.length ≤ maxLen) :
    RM d e (w.drew.alloc (.cells ((nums .u8 xs).toArray ++ (nums .u8 ys).toArray ++ Builtin.zeroCells (Value.int .u8 0).cells (grownCap w (xs.length + ys.length) cap e - (xs.length + ys.length))) e)) base ok (.slice (some ⟨w.heap.size, 0, none⟩) (xs.length + ys.length) (grownCap w (xs.length + ys.length) cap e)) (xs ++ ys) := by
  have hge := grownCap_ge w (xs.length + ys.length) cap e
  have hcm2 : grownCap w (xs.length + ys.length) cap e ≤ maxLen := grownCap_le_maxLen w _ cap e h63
  have hnx : (nums .u8 xs).length = xs.length := nums_length _ _
  have hny : (nums .u8 ys).length = ys.length := nums_length _ _
  have hz1 : (Value.int IntKind.u8 0).cells.size = 1 := rfl
  refine .inr ⟨w.heap.size, _, _, (0, 0), by rw [List.length_append], hbase, heap_alloc_new w.drew _, .inl (Nat.zero_le _), by rw [List.length_append]; exact hge, hcm2, ?_, ?_⟩
  · simp only [Array.size_append, List.size_toArray, size_zeroCells, hz1, hnx, hny]
    omega
  · have h2 : (xs ++ ys).length = (nums .u8 xs ++ nums .u8 ys).length := by simp [nums]
    simp only [Array.toList_append, List.append_assoc]
    rw [← List.append_assoc, nums_append, h2]
    exact List.take_left
section
variable {P : Program} {d : Kd Int} {e : TypeId} {w : World} {base : Nat} {ok : Nat → Prop} {v : Value} {xs : List Int}
theorem strCells_nums (y : ByteArray) : Lib.strCells y = nums .u8 (bytesOf y) := by simp [nums, bytesOf, Lib.strCells]
theorem RM_run_one (h : RM d e w base ok v xs) (t ty : TypeId) (ht : P.underlying t = some (.slice e)) (hinfo : (P.info? e).map (fun i => (i.zero, i.size, i.bytes)) = some (some (.int .u8 0), 1, 1)) (p : Int) (ad : Addr) (c : Nat) (hcell : w.cell? ad = some (.int .u8 p)) (hl : xs.length + 1 ≤ 140737488355328) (hbase : base ≤ w.heap.size) :
    ∃ v1 w1, (Builtin.append_ #[t, t] ty #[v, .slice (some ad) 1 c]).run P w = .ok v1 w1 ∧ RM d e w1 base ok v1 (xs ++ [p]) ∧ w.grownBy w1 v.ownBlock ∧ (v1.ownBlock = v.ownBlock ∨ ∃ b, v1.ownBlock = some b ∧ w.heap.size ≤ b) := by
  obtain ⟨i0, hi, hzz⟩ := Option.map_eq_some_iff.1 hinfo
  simp only [Prod.mk.injEq] at hzz
  obtain ⟨hz0, hz1, hz2⟩ := hzz
  have hnews : ∀ j u, ([.int .u8 p] : List Value)[j]? = some u → w.cell? (ad.add j) = some u := by
    intro j u hj
    match j, hj with
    | 0, hj =>
      simp at hj
      subst hj
      have : ad.add 0 = ad := by unfold Addr.add; split <;> simp_all
      rw [this]
      exact hcell
  have hone : ∀ u ∈ ([.int .u8 p] : List Value), u.oneCell' = true := by
    intro u hu
    simp at hu
    subst hu
    rfl
  rcases h with ⟨rfl, rfl⟩ | ⟨g, cap, cur, fz, rfl, hbg, hg, hfz, hnc, hcm, hcs, htake⟩
  · obtain ⟨v1, w1, h1, h2, h3, _, h4⟩ := run_append_own_at (P := P) w base t ty e i0 (.int .u8 0) 1 1 ht hi hz0 hz1 hz2 rfl (by decide) (.slice none 0 0) 0 [] ⟨by simp, .inl ⟨rfl, rfl⟩⟩ ad 1 c [.int .u8 p] (by simp) hnews hone (by simp [maxLen]) (by simp) hbase
    exact ⟨v1, w1, h1, RM_of_own (by simpa [nums] using h2), h3, h4.imp id (fun hb => ⟨_, hb, Nat.le_refl _⟩)⟩
  · by_cases hroom : xs.length + 1 ≤ cap
    · have hf := run_firstCells_some (P := P) w 1 1 ad 1 c [.int .u8 p] (by simp) hnews
      have hst := store_either P g xs.length e fz [.int .u8 p] cur w hg hfz (by simp only [List.length_singleton]; omega) hone
      have hr : (Builtin.append_ #[t, t] ty #[.slice (some ⟨g, 0, none⟩) xs.length cap, .slice (some ad) 1 c]).run P w = .ok (.slice (some ⟨g, 0, none⟩) (xs.length + 1) cap) (w.setRow g (cur.toList.take xs.length ++ [Value.int .u8 p] ++ cur.toList.drop (xs.length + 1)).toArray) := by
        simp only [List.length_singleton] at hst
        simp [Builtin.append_, run_underlying ht, sizeOf, typeInfo, hi, hz1, Builtin.lenOf, hroom, hf, Addr.add_lit, hst]
      have hR := RM_room (d := d) (ok := ok) (ys := [p]) hbg hg hfz (by simpa using hroom) hcm hcs htake
      exact ⟨_, _, hr, hR.1, hR.2, .inl rfl⟩
    · have hr := run_append_grow (P := P) w t ty e i0 (.int .u8 0) ht hi hz0 ⟨g, 0, none⟩ xs.length cap (nums .u8 xs) (by rw [hz1, nums_length]; omega) (fun j q hq => RM_cell (d := d) (ok := ok) (base := base) (n := xs.length) (c := cap) (.inr ⟨g, cap, cur, fz, rfl, hbg, hg, hfz, hnc, hcm, hcs, htake⟩) j q hq) ad 1 c [.int .u8 p] (by simp [hz1]) hnews (by omega) (by omega) (by rw [hz2]; exact growslice_fits (by omega) (by omega))
      have hG := RM_grow (d := d) (ok := ok) (e := e) (ys := [p]) (xs := xs) (cap := cap) hbase (by simp only [maxLen, List.length_singleton]; omega)
      exact ⟨_, _, hr, hG, ⟨rfl, rfl, rfl, by simp, fun k hk _ => Lib.alloc_old w.drew _ k hk⟩, .inr ⟨w.heap.size, by simp [Value.ownBlock], Nat.le_refl _⟩⟩
theorem RM_run_conv (src t : TypeId) (s : ByteArray) {u : TypeDesc} (hs : P.underlying src = some u) (ht : P.underlying t = some (.slice e)) (he : P.underlying e = some (.int .u8)) (hbase : base ≤ w.heap.size) (hl : s.size ≤ 9223372036854775807) :
    ∃ v1 w1, (convert src t (.string s)).run P w = .ok v1 w1 ∧ RM d e w1 base ok v1 (bytesOf s) ∧ Below w.heap.size w w1 ∧ (∃ b, v1.ownBlock = some b ∧ w.heap.size ≤ b) := by
  refine ⟨_, _, Lib.run_convert_string_bytes w src t e s hs ht he, ?_, ?_, ⟨w.heap.size, by simp [Value.ownBlock], Nat.le_refl _⟩⟩
  · have hge : s.size ≤ grownCap w s.size 0 e := by simpa using grownCap_ge w s.size 0 e
    have hcm2 : grownCap w s.size 0 e ≤ maxLen := grownCap_le_maxLen w _ 0 e (by unfold maxLen; omega)
    have hsz : (Lib.bytesCells w e s).size = grownCap w s.size 0 e := by
      unfold Lib.bytesCells
      simp only [Array.size_append, Array.size_map, Array.size_replicate]
      show s.size + _ = _
      omega
    refine .inr ⟨w.heap.size, _, _, _, by rw [bytesOf_length], hbase, Lib.bytesWorld_at_new w e s, .inr (Nat.le_refl _), by rw [bytesOf_length]; exact hge, hcm2, hsz, ?_⟩
    rw [← strCells_nums, bytesOf_length]
    unfold Lib.bytesCells Lib.strCells
    rw [Array.toList_append, Array.toList_map]
    have hl2 : s.size = (s.data.toList.map fun b => Value.int .u8 b.toNat).length := by simp
    rw [List.take_append_of_le_length (by rw [← hl2]; exact Nat.le_refl _), hl2, List.take_length]
  · refine ⟨rfl, rfl, rfl, by rw [Lib.bytesWorld_size]; omega, fun k hk => Lib.bytesWorld_at_old w e s k hk⟩
end
section
variable {P : Program} {ops : Array Oper} {rest : List Oper} {o : Oper} {a : Act} {Q : Exit → Act → World → Prop} {Kc : Act → World → Prop} {W w0 : World} {d : Kd Int} {e : TypeId} {ok : Nat → Prop}
theorem cell_new1 (W : World) (p : Int) (e : TypeId) : (W.alloc (.cells #[.int .u8 p] e)).cell? ⟨W.heap.size, 0, none⟩ = some (.int .u8 p) := by
  exact (blk_cell (blk_new W _) 0).trans rfl
theorem RM_append (d' : Kd Int) (base : Nat) (hgd : o.guard = none) (s x : Operand) (t e : TypeId) (z : Value) (bytes : Nat)
    (ho : o.op = .call { callee := .builtin .append, args := #[s, x], argTypes := #[t, t] })
    (ht : P.underlying t = some (.slice e)) (hinfo : (P.info? e).map (fun i => (i.zero, i.size, i.bytes)) = some (some (.int .u8 0), 1, 1)) (hz : z.cells.size = 1) (hs0 : 0 < 1) (hb0 : 0 < bytes)
    (v : Value) (xs : List Int) (p : Int) (cs : List Value) (ok okp : Nat → Prop) (hs : a.eval s = v) (hx : a.eval x = .slice (some ⟨W.heap.size, 0, none⟩) 1 1) (hp : cs = [.int .u8 p]) (hokp : ∀ k, okp k → ok k ∧ some k ≠ v.ownBlock) (hfresh : ∀ k, W.heap.size ≤ k → ok k)
    (HO : RM d' e W base ok v xs) (HB : Below base w0 W) (hbase : base ≤ W.heap.size) (hl : (xs.length + 1) * 1 ≤ 140737488355328)
    (h : ∀ v1 w1, RM d' e w1 base ok v1 (xs ++ [p]) → Below base w0 w1 → W.grownBy w1 v.ownBlock → (v1.ownBlock = v.ownBlock ∨ ∃ b, v1.ownBlock = some b ∧ W.heap.size ≤ b) → wpList P ops Q rest (a.put o.dst v1) w1) :
    wpList P ops Q (o :: rest) a (W.alloc (.cells cs.toArray e)) := by
  subst hp
  refine wpList_plain hgd fun K hK => ?_
  obtain ⟨v1, w1, hr, hown, hg, hat⟩ := RM_run_one (P := P) (RM_alloc HO (.cells #[.int .u8 p] e)) t o.type ht hinfo p ⟨W.heap.size, 0, none⟩ 1 (cell_new1 W p e) (by omega) (by simp; omega)
  unfold Oper.wp execOp
  simp only [ho, resolve, invoke, builtin, Sem.run_bind, Sem.run_pure, Result.andThen_ok, List.map_toArray, List.map_cons, List.map_nil, hs, hx, hr]
  refine hK _ _ (h v1 w1 hown ((HB.alloc hbase _).grown hg (by simp; omega) (fun k hk => (RM_lt HO k hk).1)) (World.grownBy.trans (World.grownBy_alloc W _ _) hg) ?_)
  exact hat.imp id (fun ⟨b, hb, hlb⟩ => ⟨b, hb, by simp at hlb; omega⟩)
theorem conv_event (d' : Kd Int) (base : Nat) (hgd : o.guard = none) {N : Tmp} (_hd : o.dst = some N) (x : Operand) (src t e : TypeId) {u : TypeDesc} (ho : o.op = .convert src t x) (hs : P.underlying src = some u) (ht : P.underlying t = some (.slice e)) (he : P.underlying e = some (.int .u8)) (y : ByteArray) (hx : a.eval x = .string y) (ok : Nat → Prop)
    (HB : Below base w0 W) (hbase : base ≤ W.heap.size) (hl : y.size ≤ 9223372036854775807)
    (h : ∀ v1 w1, RM d' e w1 base ok v1 (bytesOf y) → Below base w0 w1 → W.grownBy w1 none → (∃ b, v1.ownBlock = some b ∧ W.heap.size ≤ b) → wpList P ops Q rest (a.put o.dst v1) w1) : wpList P ops Q (o :: rest) a W := by
  refine wpList_plain hgd fun K hK => ?_
  obtain ⟨v1, w1, hr, hR, hb, hn⟩ := RM_run_conv (P := P) (d := d') (ok := ok) (w := W) (base := base) src t y hs ht he hbase hl
  unfold Oper.wp execOp
  simp only [ho, hx, Sem.run_bind, Sem.run_pure, Result.andThen_ok, hr]
  exact hK _ _ (h v1 w1 hR (HB.trans (hb.mono hbase)) ⟨hb.os, hb.tape, hb.output, hb.size, fun k hk _ => hb.block k hk⟩ hn)
end
def QM (d : Kd Int) (e : TypeId) (w : World) (base : Nat) (ok : Nat → Prop) (v : Value) (xs : List Int) : Prop :=
  (∀ k, v.ownBlock = some k → ok k ∧ base ≤ k ∧ ∃ cur fz, w.heap[k]? = some (.cells cur e fz)) ∧ ∃ A c, v = .slice A xs.length c ∧ xs.length ≤ c ∧ ReadsOf (Value.int .u8) (0 : Int) w A xs.length xs
section
variable {d : Kd Int} {e : TypeId} {w w1 : World} {base : Nat} {ok ok' : Nat → Prop} {v : Value} {xs : List Int}
theorem QM_of_RM (h : RM d e w base ok v xs) : QM d e w base (fun _ => True) v xs := by
  have hh := h
  rcases h with ⟨rfl, rfl⟩ | ⟨g, cap, cur, fz, rfl, h2, h3, h4, h5, h6, h7, h8⟩
  · refine ⟨fun k hk => by simp [Value.ownBlock] at hk, none, 0, rfl, Nat.le_refl _, rfl, by simp, fun hp => absurd hp (by simp)⟩
  · refine ⟨fun k hk => ?_, some ⟨g, 0, none⟩, cap, rfl, h5, rfl, by unfold maxLen at h6; omega, fun hp => ⟨_, rfl, fun j hj => ?_⟩⟩
    · simp [Value.ownBlock] at hk
      subst hk
      exact ⟨trivial, h2, cur, fz, h3⟩
    · refine RM_cell hh j _ ?_
      unfold nums
      rw [List.getElem?_map, List.getElem?_eq_getElem hj, List.getD_eq_getElem?_getD, List.getElem?_eq_getElem hj]
      rfl
theorem QM_nil (d : Kd Int) (e : Nat) (w : World) (base : Nat) (ok : Nat → Prop) : QM d e w base ok (.slice none 0 0) [] :=
  ⟨fun k hk => by simp [Value.ownBlock] at hk, none, 0, rfl, Nat.le_refl _, rfl, by simp, fun hp => absurd hp (by simp)⟩
theorem QM_step (h : QM d e w base ok v xs) (hm : ∀ k, ok k → (∃ cur fz, w.heap[k]? = some (.cells cur e fz)) → w1.heap[k]? = w.heap[k]?) : QM d e w1 base ok v xs := by
  obtain ⟨h0, A, c, rfl, hl, h1, h2, h3⟩ := h
  refine ⟨fun k hk => ?_, A, c, rfl, hl, h1, h2, fun hp => ?_⟩
  · obtain ⟨a1, a2, cur, fz, a3⟩ := h0 k hk
    exact ⟨a1, a2, cur, fz, (hm k a1 ⟨cur, fz, a3⟩).trans a3⟩
  · obtain ⟨ad, rfl, hc⟩ := h3 hp
    obtain ⟨a1, a2, cur, fz, a3⟩ := h0 ad.block rfl
    refine ⟨ad, rfl, fun j hj => ?_⟩
    rw [← hc j hj]
    have hb : ∀ (a : Addr) (n : Nat), (a.add n).block = a.block := fun a n => by unfold Addr.add; split <;> rfl
    have := hm ad.block a1 ⟨cur, fz, a3⟩
    unfold World.cell?
    rw [hb, this]
theorem QM_mono (h : QM d e w base ok v xs) (hk : ∀ k, ok k → ok' k) : QM d e w base ok' v xs := ⟨fun k hb => by
  obtain ⟨a1, a2⟩ := h.1 k hb
  exact ⟨hk k a1, a2⟩, h.2⟩
theorem QM_below (h : QM d e w base ok v xs) (hb : Below w.heap.size w w1) : QM d e w1 base ok v xs := QM_step h (fun k _ ⟨_, _, hk⟩ => hb.block k (Array.getElem?_eq_some_iff.1 hk).1)
theorem QM_alloc (h : QM d e w base ok v xs) (o : Obj) : QM d e (w.alloc o) base ok v xs := QM_below h (below_alloc (Below.refl _ _) o)
theorem QM_drew (h : QM d e w base ok v xs) : QM d e w.drew base ok v xs := QM_below h (below_drew (Below.refl _ _))
theorem QM_drewN (h : QM d e w base ok v xs) (m : Nat) : QM d e (w.drewN m) base ok v xs := QM_below h (pw_below_drewN (Below.refl _ _) m)
theorem QM_far (h : QM d e w base ok v xs) {p : Addr} (hok : ∀ k, ok k → k ≠ p.block) (u : Value) : QM d e (w.setCell p u) base ok v xs := QM_step h (fun k ho _ => Below.heap_setCell w p u k (hok k ho))
theorem QM_types (h : QM d e w base ok v xs) {g t : Nat} {cells : Array Value} (hb : w.heap[g]? = some (.cells cells t (0, 0))) (ht : ∀ q, q ∈ e :: d.E → q ≠ t) : QM d e w base (fun k => ok k ∧ k ≠ g) v xs :=
  ⟨fun k hk => by
    obtain ⟨a1, a2, cur, fz, a3⟩ := h.1 k hk
    refine ⟨⟨a1, ?_⟩, a2, cur, fz, a3⟩
    rintro rfl
    rw [a3] at hb
    injection hb with hb
    injection hb with _ hb
    exact ht e (by simp) hb, h.2⟩
theorem QM_over' {e' : Nat} {u : Value} (h : QM d e w base ok v xs) (hty : ∀ k, u.ownBlock = some k → ∃ cells, w.heap[k]? = some (.cells cells e' (0, 0))) (ht : ∀ q, q ∈ e :: d.E → q ≠ e') (hg : w.grownBy w1 u.ownBlock) : QM d e w1 base ok v xs :=
  QM_step h (fun k _ ⟨cur, fz, hk⟩ => hg.block k (Array.getElem?_eq_some_iff.1 hk).1 (fun he => by
    obtain ⟨cells, hc⟩ := hty k he.symm
    rw [hk] at hc
    injection hc with hc
    injection hc with _ hc
    exact ht e (by simp) hc))
theorem QM_slice (h : QM d e w base ok v xs) : ∃ A c, v = .slice A xs.length c ∧ xs.length ≤ c := by
  obtain ⟨_, A, c, h1, h2, _⟩ := h
  exact ⟨A, c, h1, h2⟩
theorem QM_reads' {A : Option Addr} {n c : Nat} (h : QM d e w base ok (.slice A n c) xs) : n = xs.length ∧ n ≤ c ∧ Kd.C (Kd.int .u8) w A xs.length xs := by
  obtain ⟨_, A', c', h1, h2, h3⟩ := h
  injection h1 with h1 h4 h5
  subst h1 h4 h5
  exact ⟨rfl, h2, Kd.C_of_reads (enc := Value.int .u8) (d := (0 : Int)) h3⟩
theorem QM_drop {A : Option Addr} {k n c : Nat} (h : QM d e w base ok (.slice A n c) xs) (hk : k ≤ xs.length) : QM d e w base ok (.slice (if c = k then A else A.map (·.add (k * (Kd.int .u8).sz))) (n - k) (c - k)) (xs.drop k) := by
  obtain ⟨h0, A', c', h1, h2, h3, h4, h5⟩ := h
  injection h1 with h1 h6 h7
  subst h1 h6 h7
  have hb : (Value.slice (if c = k then A else A.map (·.add (k * (Kd.int .u8).sz))) (xs.length - k) (c - k)).ownBlock = (Value.slice A xs.length c).ownBlock := by
    split
    · cases A <;> rfl
    · cases A
      · rfl
      · rename_i ad
        show some (ad.add _).block = some ad.block
        congr 1
        unfold Addr.add
        split <;> rfl
  refine ⟨fun j hj => h0 j (by rw [← hb]; exact hj), _, c - k, by rw [List.length_drop], by rw [List.length_drop]; omega, rfl, by rw [List.length_drop]; omega, fun hp => ?_⟩
  rw [List.length_drop] at hp
  obtain ⟨ad, rfl, hc⟩ := h5 (by omega)
  rw [if_neg (by omega)]
  refine ⟨ad.add (k * 1), rfl, fun j hj => ?_⟩
  rw [List.length_drop] at hj
  rw [add_add, show k * 1 + j = k + j by omega, hc (k + j) (by omega)]
  congr 2
  rw [List.getD_eq_getElem?_getD, List.getD_eq_getElem?_getD, List.getElem?_drop]
end
section
variable {d : Kd Int} {e : TypeId} {w w1 : World} {base : Nat} {ok : Nat → Prop} {v : Value} {xs : List Int}
end
section
variable {P : Program} {ops : Array Oper} {rest : List Oper} {o : Oper} {a : Act} {Q : Exit → Act → World → Prop} {W w0 : World}
end
end Go.Proofs.YtbonmhgihedjpaaM
