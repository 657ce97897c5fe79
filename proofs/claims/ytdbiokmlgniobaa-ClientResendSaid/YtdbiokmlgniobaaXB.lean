/- What the methods of a strings.Builder do that a function has made for itself: it holds the bytes that were written, and nothing older than it is changed. Condition: at most 2^47 bytes are written.
   Own text of this session. Ytdbiokmlgniobaa: the seat's Name; numbers are filled in by bld.py. -/
import Derived.Shelf.Strings.Builder1
import Derived.Shelf.Strings.BuilderF
import Derived.Shelf.Strings.BuilderK
import Derived.Lib.FrozenHead2
import Derived.Lib.OthersKept
import Derived.Test.YtdbiokmlgniobaaProg
import Derived.WalkKit
import Derived.BigCall
namespace Go.Proofs.YtdbiokmlgniobaaB
open Go.RowKit
set_option linter.unusedVariables false
set_option linter.unusedSimpArgs false
def Bld (b : Nat) (bs : List Value) (w : World) : Prop := Lib.IsBuilderF 85 5 b b bs w
set_option maxRecDepth 100000 in
theorem bld_size : (Try.prog.info? 85).map (·.size) = some 2 := by kernel_rfl
set_option maxRecDepth 100000 in
theorem copyCheck_used (b : Nat) (w : World) (h0 : w.cell? ⟨b, 0, none⟩ = some (.pointer (some ⟨b, 0, none⟩))) :
    Calls Try.prog 59 #[.pointer (some ⟨b, 0, none⟩)] w fun e w' => e = .returned (.tuple #[]) ∧ w' = w := by
  obtain ⟨j, hj, _⟩ := Option.map_eq_some_iff.1 bld_size
  go_enter Try.func59, Try.ntmps59
  go_wp2
  rw [Lib.run_neq_ptr_same w _ Try.underlying82 hj]
  go_wp2
  go_end0
  exact ⟨rfl, rfl⟩
set_option maxRecDepth 100000 in
theorem copyCheck_fresh (b : Nat) (w : World) (h0 : w.cell? ⟨b, 0, none⟩ = some (.pointer none)) (hsh : w.shape? b = some (85, 2)) (hfz : w.frozen? ⟨b, 0, none⟩ = false) :
    Calls Try.prog 59 #[.pointer (some ⟨b, 0, none⟩)] w fun e w' => e = .returned (.tuple #[]) ∧ w' = w.setCell ⟨b, 0, none⟩ (.pointer (some ⟨b, 0, none⟩)) := by
  obtain ⟨j, hj, hjs⟩ := Option.map_eq_some_iff.1 bld_size
  go_enter Try.func59, Try.ntmps59
  go_wp2
  rw [Lib.run_to_unsafe w ⟨b, 0, none⟩ Try.underlying82 Try.underlying120 hj (by rw [hjs]; decide) hsh (Nat.zero_lt_succ 1)]
  simp only [Result.andThen]
  rw [Oper.upon_value]
  go_wp2
  rw [run_callFunc_extern Try.func74 (by kernel_rfl) (by kernel_rfl) (by kernel_rfl) (e := Extern.AbiNoEscape.same) (by kernel_rfl)]
  rw [Lib.run_noEscape]
  simp only [Result.andThen]
  rw [Oper.upon_value]
  go_wp2
  rw [Lib.run_from_unsafe w ⟨b, 0, none⟩ Try.underlying120 Try.underlying82 hj hsh (by kernel_rfl)]
  simp only [Result.andThen]
  rw [Oper.upon_value]
  go_wp2
  go_end0
  exact ⟨rfl, rfl⟩
set_option maxRecDepth 100000 in
theorem copyCheck_calls (b : Nat) (bs : List Value) (w : World) (h : Bld b bs w) :
    Calls Try.prog 59 #[.pointer (some ⟨b, 0, none⟩)] w fun e w' => e = .returned (.tuple #[]) ∧ Lib.BuilderAtF 85 5 b b (.pointer (some ⟨b, 0, none⟩)) bs w' ∧ Below b w w' ∧ Lib.OthersKept 5 (some b) w w' := by
  rcases h with h | h
  · refine (copyCheck_fresh b w h.cell0 h.shape h.frozen0).mono ?_
    rintro e w' ⟨rfl, rfl⟩
    exact ⟨rfl, h.used _, (Below.refl b w).setCell (p := ⟨b, 0, none⟩) h.1 _, (Lib.OthersKept.refl _ _ w).setCell ⟨b, 0, none⟩ rfl _⟩
  · refine (copyCheck_used b w h.cell0).mono ?_
    rintro e w' ⟨rfl, rfl⟩
    exact ⟨rfl, h, Below.refl b _, Lib.OthersKept.refl _ _ _⟩
set_option maxRecDepth 100000 in
theorem bld_byte : (Try.prog.info? 5).map (fun i => (i.zero, i.size, i.bytes)) = some (some (.int .u8 0), 1, 1) := by kernel_rfl
set_option maxRecDepth 100000 in
theorem bld_lt {b : Nat} {bs : List Value} {w : World} (h : Bld b bs w) : b < w.heap.size := h.elim (fun x => x.lt) (fun x => x.lt)
set_option maxHeartbeats 2000000 in
set_option maxRecDepth 100000 in
theorem WriteString_calls (b : Nat) (bs : List Value) (s : ByteArray) (w : World) (h : Bld b bs w) (hlen : bs.length + s.size ≤ 140737488355328) :
    Calls Try.prog 43 #[.pointer (some ⟨b, 0, none⟩), .string s] w fun e w' => e = .returned (.tuple #[.int .i64 s.size, .nilIface]) ∧ Bld b (bs ++ Lib.strCells s) w' ∧ Below b w w' ∧ Lib.OthersKept 5 (some b) w w' := by
  obtain ⟨i0, hi, hz0, hz1, hz2⟩ := info_parts bld_byte
  go_enter Try.func43, Try.ntmps43
  go_wp2_with (go_at_call 59; refine (copyCheck_calls b bs _ h).mono ?_)
  rintro e w1 ⟨rfl, h1, hb1, hk1⟩
  have hlt := h1.lt
  obtain ⟨hB, v, hbk, hown, hne⟩ := h1
  have c0 : w1.cell? ⟨b, 0, none⟩ = some (.pointer (some ⟨b, 0, none⟩)) := by rw [Lib.cell_of_heap hbk]; rfl
  have c1 : w1.cell? ⟨b, 1, none⟩ = some v := by rw [Lib.cell_of_heap hbk]; rfl
  go_wp2_with (at_builtin; refine Lib.wpList_append_own_stringF _ rfl _ _ 83 9 rfl b 5 i0 Try.underlying83 Try.underlying9 hi hz0 hz1 hz2 _ _ _ rfl hown s rfl ?c3 ?c4 ?c5 ?_)
  case c3 => unfold maxLen; omega
  case c4 => omega
  case c5 => omega
  intro v' w2 hown' hgrow _
  have hb2 : w2.heap[b]? = some (.cells #[.pointer (some ⟨b, 0, none⟩), v] 85 (0, 0)) := by
    rw [hgrow.block b hlt (fun e => hne e.symm)]
    exact hbk
  have d0 : w2.cell? ⟨b, 0, none⟩ = some (.pointer (some ⟨b, 0, none⟩)) := by rw [Lib.cell_of_heap hb2]; rfl
  have d1 : w2.cell? ⟨b, 1, none⟩ = some v := by rw [Lib.cell_of_heap hb2]; rfl
  have f1 : w2.frozen? ⟨b, 1, none⟩ = false := Lib.frozen_of_heap hb2 1
  obtain ⟨ao, n', cap, rfl⟩ : ∃ ao n' cap, v' = .slice ao n' cap := by
    rcases hown'.2 with ⟨hv, _⟩ | ⟨g, cap, cur, fz, hv, _⟩
    · exact ⟨_, _, _, hv⟩
    · exact ⟨_, _, _, hv⟩
  go_wp2
  go_ret2
  refine ⟨rfl, .inr ?_, ?_, (hk1.grown hgrow (Lib.ownsRowF_kind hown)).setCell ⟨b, 1, none⟩ rfl _⟩
  · exact Lib.BuilderAtF.put (T := 85) (e := 5) hB hb2 (bs' := bs ++ Lib.strCells s) (by simpa [Lib.strCells_length] using hown') (by decide)
  · exact (hb1.grown hgrow (by omega) (fun k hk => (hown.lt k hk).1)).setCell (p := ⟨b, 1, none⟩) hB _
def renS : Go.Shelf.Ren := ⟨fun | 169 => 46 | n => n, fun | 70 => 82 | 9 => 9 | 0 => 0 | 72 => 85 | 37 => 83 | 127 => 111 | 3 => 3 | 5 => 5 | n => n, fun | n => n⟩
set_option maxRecDepth 100000 in
theorem laysS : Go.Proofs.Lays.n169 Try.prog renS := {
  mixed := by kernel_rfl
  f169 := Try.func46.trans (congrArg some (by kernel_rfl))
  t0 := Try.underlying0
  a0 := Try.isAgg0
  z0 := Try.sizeOf0
  v0 := Try.zeroValue0
  t3 := Try.underlying3
  a3 := Try.isAgg3
  z3 := Try.sizeOf3
  v3 := Try.zeroValue3
  t9 := Try.underlying9
  a9 := Try.isAgg9
  z9 := Try.sizeOf9
  v9 := Try.zeroValue9
  t37 := Try.underlying83
  a37 := Try.isAgg83
  z37 := Try.sizeOf83
  v37 := Try.zeroValue83
  t70 := Try.underlying82
  a70 := Try.isAgg82
  z70 := Try.sizeOf82
  v70 := Try.zeroValue82
  t72 := Try.underlying85
  a72 := Try.isAgg85
  z72 := Try.sizeOf85
  v72 := Try.zeroValue85
  t127 := Try.underlying111
  a127 := Try.isAgg111
  z127 := Try.sizeOf111
  v127 := Try.zeroValue111 }
set_option maxRecDepth 100000 in
theorem extraS : Builder.Extra Try.prog renS := {
  sizeBuilder := by kernel_rfl
  liesBuilder := by kernel_rfl
  t5 := Try.underlying5
  a5 := Try.isAgg5
  z5 := Try.sizeOf5
  v5 := Try.zeroValue5
  infoByte := by kernel_rfl
  cellsByte := by kernel_rfl
  sizeByte := by kernel_rfl
  neB5 := by decide }
set_option maxRecDepth 100000 in
theorem String_calls (b : Nat) (s : ByteArray) (w : World) (h : Bld b (Lib.strCells s) w) :
    Calls Try.prog 46 #[.pointer (some ⟨b, 0, none⟩)] w fun e w' => e = .returned (.string s) ∧ Bld b (Lib.strCells s) w' ∧ Below b w w' ∧ Lib.OthersKept 5 (some b) w w' := by
  have hb := bld_lt h
  refine (Any.Builder_String_any_k laysS extraS b b s.data.toList w h (by omega)).mono ?_
  rintro e w' ⟨he, h1, h2, h3⟩
  exact ⟨he.trans (by cases s; rfl), h1, h2, h3⟩
set_option maxRecDepth 100000 in
theorem cells_add (a b : ByteArray) : Lib.strCells (a ++ b) = Lib.strCells a ++ Lib.strCells b := by simp [Lib.strCells]
set_option maxRecDepth 100000 in
theorem bld_box {g : Nat} {w : World} (h : w.heap[g]? = some (.cells #[.pointer none, .slice none 0 0] 85 (0, 0))) : Bld g (Lib.strCells (⟨#[]⟩ : ByteArray)) w :=
  Lib.IsBuilderF.of (Or.inl ⟨Nat.le_refl _, .slice none 0 0, h, World.ownsRow_nil _ _ _ _, by simp [Value.ownBlock]⟩)
set_option maxRecDepth 100000 in
theorem bld_below {b : Nat} {bs : List Value} {w w' : World} (h : Bld b bs w) (hb : Below w.heap.size w w') : Bld b bs w' := by
  have key : ∀ p, Lib.BuilderAtF 85 5 b b p bs w → Lib.BuilderAtF 85 5 b b p bs w' := by
    intro p h
    have hlt := h.lt
    obtain ⟨hB, v, hbk, hown, hne⟩ := h
    exact ⟨hB, v, (hb.block b hlt).trans hbk, hown.kept (⟨hb.os, hb.tape, hb.output, hb.size, fun k hk _ => hb.block k hk⟩ : w.grownBy w' none) (by cases hv : v.ownBlock <;> simp), hne⟩
  exact h.elim (fun x => .inl (key _ x)) (fun x => .inr (key _ x))
set_option maxRecDepth 100000 in
theorem bld_drewN {b : Nat} {bs : List Value} {w : World} (h : Bld b bs w) (n : Nat) : Bld b bs (w.drewN n) := bld_below h ⟨rfl, rfl, rfl, Nat.le_refl _, fun _ _ => rfl⟩
set_option maxRecDepth 100000 in
theorem kept_block {b g : Nat} {w w' : World} {o : Obj} (h : Lib.OthersKept 5 (some b) w w') (hg : w.heap[g]? = some o) (h1 : g ≠ b) (h2 : ∀ c fz, o ≠ .cells c 5 fz) : w'.heap[g]? = some o :=
  h g o hg (fun e => h1 (Option.some.inj e)) h2
end Go.Proofs.YtdbiokmlgniobaaB
