/- Rows of bytes of a call's own that a conversion may have marked behind their end: appended to, read and written as any other row. Conditions: those that each lemma names.
   Own text of this session. Ytnimhhhbefpifaa: the seat's Name. -/
import Derived.Lib.FrozenHead2
import Derived.Lib.ConvBytes
import Derived.Test.YtnimhhhbefpifaaYWMore
namespace Go.Proofs.YtnimhhhbefpifaaM
open Go.RowKit Go.Proofs.YtnimhhhbefpifaaW.PrintWords Go.Proofs.YtnimhhhbefpifaaW.PrintMore
set_option linter.unusedVariables false
set_option linter.unusedSimpArgs false
/-- A row of bytes: what is frozen of it lies within the elements, or behind the last cell. (d, ok: for the form's sake.) -/
def RM (d : Kd Int) (e : TypeId) (w : World) (base : Nat) (ok : Nat → Prop) (v : Value) (xs : List Int) : Prop :=
  (v = .slice none 0 0 ∧ xs = []) ∨
  ∃ g cap cur fz, v = .slice (some ⟨g, 0, none⟩) xs.length cap ∧ base ≤ g ∧ w.heap[g]? = some (.cells cur e fz) ∧ (fz.2 ≤ xs.length ∨ cur.size ≤ fz.1) ∧ xs.length ≤ cap ∧ cap ≤ maxLen ∧ cur.size = cap ∧ cur.toList.take xs.length = nums .u8 xs
section
variable {d : Kd Int} {e : TypeId} {w w1 : World} {base : Nat} {ok : Nat → Prop} {v : Value} {xs : List Int}
theorem RM_step (h : RM d e w base ok v xs) (hm : ∀ k, v.ownBlock = some k → k < w.heap.size → w1.heap[k]? = w.heap[k]?) : RM d e w1 base ok v xs := by
  rcases h with h | ⟨g, cap, cur, fz, rfl, h2, h3, rest⟩
  · exact .inl h
  · exact .inr ⟨g, cap, cur, fz, rfl, h2, (hm g (by simp [Value.ownBlock]) (Array.getElem?_eq_some_iff.1 h3).1).trans h3, rest⟩
theorem RM_below (h : RM d e w base ok v xs) (hb : Below w.heap.size w w1) : RM d e w1 base ok v xs := RM_step h (fun k _ hk => hb.block k hk)
theorem RM_alloc (h : RM d e w base ok v xs) (o : Obj) : RM d e (w.alloc o) base ok v xs := RM_below h (below_alloc (Below.refl _ _) o)
theorem RM_drew (h : RM d e w base ok v xs) : RM d e w.drew base ok v xs := RM_below h (below_drew (Below.refl _ _))
theorem RM_drewN (h : RM d e w base ok v xs) (m : Nat) : RM d e (w.drewN m) base ok v xs := RM_below h (pw_below_drewN (Below.refl _ _) m)
theorem RM_lower {base' : Nat} (h : RM d e w base ok v xs) (hb : base' ≤ base) : RM d e w base' ok v xs := by
  rcases h with h | ⟨g, cap, cur, fz, h1, h2, rest⟩
  · exact .inl h
  · exact .inr ⟨g, cap, cur, fz, h1, Nat.le_trans hb h2, rest⟩
theorem RM_slice (h : RM d e w base ok v xs) : ∃ A c, v = .slice A xs.length c := by
  rcases h with ⟨rfl, rfl⟩ | ⟨g, cap, cur, fz, rfl, _⟩
  · exact ⟨_, _, rfl⟩
  · exact ⟨_, _, rfl⟩
theorem RM_cell {g : Nat} {n c : Nat} (h : RM d e w base ok (.slice (some ⟨g, 0, none⟩) n c) xs) (j : Nat) (u : Value) (hu : (nums .u8 xs)[j]? = some u) : w.cell? ((⟨g, 0, none⟩ : Addr).add j) = some u := by
  rcases h with ⟨h1, _⟩ | ⟨g', cap, cur, fz, h1, h2, h3, h4, h5, h6, h7, h8⟩
  · cases h1
  · injection h1 with h1 _ _
    injection h1 with h1
    injection h1 with h1 _ _
    subst h1
    have hadd : (⟨g, 0, none⟩ : Addr).add j = ⟨g, j, none⟩ := by unfold Addr.add; split <;> simp_all
    rw [hadd, cell_of_row w g j cur e fz h3]
    rw [← h8, List.getElem?_take] at hu
    split at hu
    · simpa using hu
    · cases hu
theorem RM_reads' {A : Option Addr} {n c : Nat} (h : RM d e w base ok (.slice A n c) xs) : n = xs.length ∧ n ≤ c ∧ Kd.C (Kd.int .u8) w A xs.length xs := by
  have hh := h
  rcases h with ⟨h1, rfl⟩ | ⟨g, cap, cur, fz, h1, h2, h3, h4, h5, h6, h7, h8⟩
  · injection h1 with h1 h2 h3
    subst h1 h2 h3
    exact ⟨rfl, Nat.le_refl _, Kd.C_nil _ _⟩
  · injection h1 with h1 h9 h10
    subst h1 h9 h10
    refine ⟨rfl, h5, ?_⟩
    refine Kd.C_of_reads (enc := Value.int .u8) (d := (0 : Int)) ⟨rfl, by unfold maxLen at h6; omega, fun hp => ⟨_, rfl, fun j hj => ?_⟩⟩
    refine RM_cell hh j _ ?_
    unfold nums
    rw [List.getElem?_map, List.getElem?_eq_getElem hj, List.getD_eq_getElem?_getD, List.getElem?_eq_getElem hj]
    rfl
end
section
variable {P : Program} {d : Kd Int} {e : TypeId} {w : World} {base : Nat} {ok : Nat → Prop} {v : Value} {xs : List Int}
theorem strCells_nums (y : ByteArray) : Lib.strCells y = nums .u8 (bytesOf y) := by simp [nums, bytesOf, Lib.strCells]
/-- []byte(s). -/
theorem RM_run_conv (src t : TypeId) (s : ByteArray) {u : TypeDesc} (hs : P.underlying src = some u) (ht : P.underlying t = some (.slice e)) (he : P.underlying e = some (.int .u8)) (hbase : base ≤ w.heap.size) (hl : s.size ≤ 9223372036854775807) :
    ∃ v1 w1, (convert src t (.string s)).run P w = .ok v1 w1 ∧ RM d e w1 base ok v1 (bytesOf s) ∧ Below w.heap.size w w1 ∧ (∃ b, v1.ownBlock = some b ∧ w.heap.size ≤ b) := by
  refine ⟨_, _, Lib.run_convert_string_bytes w src t e s hs ht he, ?_, ?_, ⟨w.heap.size, by simp [Value.ownBlock], Nat.le_refl _⟩⟩
  · have hge : s.size ≤ grownCap w s.size 0 e := by simpa using grownCap_ge w s.size 0 e
    have hcm2 : grownCap w s.size 0 e ≤ maxLen := grownCap_le_maxLen w _ 0 e (by unfold maxLen; omega)
    have hsz : (Lib.bytesCells w e s).size = grownCap w s.size 0 e := by
      unfold Lib.bytesCells
      simp only [Array.size_append, Array.size_map, Array.size_replicate]
      show s.size + _ = _
      omega
    refine .inr ⟨w.heap.size, _, _, _, by rw [bytesOf_length], hbase, Lib.bytesWorld_at_new w e s, .inr (Nat.le_refl _), by rw [bytesOf_length]; exact hge, hcm2, hsz, ?_⟩
    rw [← strCells_nums, bytesOf_length]
    unfold Lib.bytesCells Lib.strCells
    rw [Array.toList_append, Array.toList_map]
    have hl2 : s.size = (s.data.toList.map fun b => Value.int .u8 b.toNat).length := by simp
    rw [List.take_append_of_le_length (by rw [← hl2]; exact Nat.le_refl _), hl2, List.take_length]
  · refine ⟨rfl, rfl, rfl, by rw [Lib.bytesWorld_size]; omega, fun k hk => Lib.bytesWorld_at_old w e s k hk⟩
end
section
variable {P : Program} {ops : Array Oper} {rest : List Oper} {o : Oper} {a : Act} {Q : Exit → Act → World → Prop} {Kc : Act → World → Prop} {W w0 : World} {d : Kd Int} {e : TypeId} {ok : Nat → Prop}
/-- []byte(s). -/
theorem conv_event (d' : Kd Int) (base : Nat) (hgd : o.guard = none) {N : Tmp} (_hd : o.dst = some N) (x : Operand) (src t e : TypeId) {u : TypeDesc} (ho : o.op = .convert src t x) (hs : P.underlying src = some u) (ht : P.underlying t = some (.slice e)) (he : P.underlying e = some (.int .u8)) (y : ByteArray) (hx : a.eval x = .string y) (ok : Nat → Prop)
    (HB : Below base w0 W) (hbase : base ≤ W.heap.size) (hl : y.size ≤ 9223372036854775807)
    (h : ∀ v1 w1, RM d' e w1 base ok v1 (bytesOf y) → Below base w0 w1 → W.grownBy w1 none → (∃ b, v1.ownBlock = some b ∧ W.heap.size ≤ b) → wpList P ops Q rest (a.put o.dst v1) w1) : wpList P ops Q (o :: rest) a W := by
  refine wpList_plain hgd fun K hK => ?_
  obtain ⟨v1, w1, hr, hR, hb, hn⟩ := RM_run_conv (P := P) (d := d') (ok := ok) (w := W) (base := base) src t y hs ht he hbase hl
  unfold Oper.wp execOp
  simp only [ho, hx, Sem.run_bind, Sem.run_pure, Result.andThen_ok, hr]
  exact hK _ _ (h v1 w1 hR (HB.trans (hb.mono hbase)) ⟨hb.os, hb.tape, hb.output, hb.size, fun k hk _ => hb.block k hk⟩ hn)
end
/-! ### A window of such a row, that is read alone -/
section
variable {d : Kd Int} {e : TypeId} {w w1 : World} {base : Nat} {ok ok' : Nat → Prop} {v : Value} {xs : List Int}
end
/-! ### Rows whose mark lies behind the last cell: written as any other -/
section
variable {d : Kd Int} {e : TypeId} {w w1 : World} {base : Nat} {ok : Nat → Prop} {v : Value} {xs : List Int}
end
section
variable {P : Program} {ops : Array Oper} {rest : List Oper} {o : Oper} {a : Act} {Q : Exit → Act → World → Prop} {W w0 : World}
end
end Go.Proofs.YtnimhhhbefpifaaM
