/- Printed for this claim by a program of this session over the kit's print program: the Go functions as Lean functions, and proofs that the calls come to these answers. No conditions. -/
import Derived.Test.YtnimhhhbefpifaaYB
import Derived.Test.YtnimhhhbefpifaaYD
import Derived.StillTailTactics
import Derived.LoopTactic
import Derived.Test.YtnimhhhbefpifaaYPL20x0
import Derived.Test.YtnimhhhbefpifaaYPL20x7
import Derived.Test.YtnimhhhbefpifaaYPL20x8
namespace Go.Proofs.Ytnimhhhbefpifaa.PL20
open Go.RowKit Go.Proofs.YtnimhhhbefpifaaW.PrintWords Go.Proofs.YtnimhhhbefpifaaW.PrintLast Go.Proofs.YtnimhhhbefpifaaW.PrintMore
attribute [local go_sem] max2_int min2_int max_two min_two max_three min_three max_four min_four   -- for this text's walks alone
set_option linter.unusedVariables false
set_option linter.unusedSimpArgs false

/-! ### wire_Encode: function 11 -/
/-- A number in so many bytes, behind what is there. -/
def wnum (n : Int) : Nat → ByteArray → ByteArray
  | 0, s => s
  | j + 1, s => wnum n j (s.push (UInt8.ofNat ((shr .i64 n (8 * (j : Int))) % 256).toNat))
theorem wnum_size (n : Int) : ∀ (j : Nat) (s : ByteArray), (wnum n j s).size = s.size + j
  | 0, s => rfl
  | j + 1, s => by rw [wnum, wnum_size n j, ByteArray.size_push]; omega
def wtext (t : ByteArray) (j : Nat) (s : ByteArray) : ByteArray := wnum (t.size : Int) j s ++ t
theorem sheet_lies : Go.Proofs.YtnimhhhbefpifaaD.Lies 43 2 0 := ⟨by decide, by decide, by kernel_rfl⟩
/-- What the writing of a sheet leaves. -/
def ShF (B b : Nat) (w w' : World) : Prop := (∀ K, K ≤ b → K ≤ B → Below K w w') ∧ w.heap.size ≤ w'.heap.size ∧ (∀ k, k < B → k ≠ b → w'.heap[k]? = w.heap[k]?) ∧ Lib.OthersKept 5 (some b) w w'
theorem ShF.refl (B b : Nat) (w : World) : ShF B b w w := ⟨fun K _ _ => Below.refl K w, Nat.le_refl _, fun _ _ _ => rfl, Lib.OthersKept.refl _ _ _⟩
theorem ShF.trans {B b : Nat} {u v w : World} (h : ShF B b u v) (k : ShF B b v w) : ShF B b u w :=
  ⟨fun K h1 h2 => (h.1 K h1 h2).trans (k.1 K h1 h2), Nat.le_trans h.2.1 k.2.1, fun q h1 h2 => (k.2.2.1 q h1 h2).trans (h.2.2.1 q h1 h2), h.2.2.2.trans k.2.2.2⟩
/-- A sheet at block b. -/
def Sheet (B b : Nat) (s : ByteArray) (w : World) : Prop := ∃ cs : Array Value, cs.size = 2 ∧ Go.Proofs.YtnimhhhbefpifaaD.BAt B b 0 43 cs (Lib.strCells s) w
theorem sheet_byte (B b : Nat) (s : ByteArray) (c : Int) (w : World) (h0 : 0 ≤ c) (h1 : c ≤ 255) (hs : s.size + 1 ≤ 140737488355328) (h : Sheet B b s w) (hB : B ≤ w.heap.size) :
    Calls Try.prog 37 #[.pointer (some ⟨b, 0, none⟩), .int .u8 c] w fun e w' => e = .returned .nilIface ∧ Sheet B b (s.push (UInt8.ofNat c.toNat)) w' ∧ ShF B b w w' := by
  obtain ⟨cs, hcs, hA⟩ := h
  refine (Go.Proofs.YtnimhhhbefpifaaD.WriteByte_at B b 0 43 cs _ c w (by rw [hcs]; exact sheet_lies) hA (by rw [Lib.strCells_length]; exact hs) hB).mono ?_
  rintro e w' ⟨rfl, ⟨v', h2⟩, h3, h4, h5, h6⟩
  refine ⟨rfl, ⟨(cs.setIfInBounds 0 (.pointer (some ⟨b, 0, none⟩))).setIfInBounds (0 + 1) v', by rw [Array.size_setIfInBounds, Array.size_setIfInBounds, hcs], ?_⟩, h3, h4, h5, h6⟩
  have e1 : ((UInt8.ofNat c.toNat).toNat : Int) = c := by simp only [UInt8.toNat_ofNat']; omega
  rw [Go.Proofs.YtnimhhhbefpifaaB.cells_push, e1]
  exact h2
theorem sheet_str (B b : Nat) (s t : ByteArray) (w : World) (hs : s.size + t.size ≤ 140737488355328) (h : Sheet B b s w) (hB : B ≤ w.heap.size) :
    Calls Try.prog 38 #[.pointer (some ⟨b, 0, none⟩), .string t] w fun e w' => e = .returned (.tuple #[.int .i64 t.size, .nilIface]) ∧ Sheet B b (s ++ t) w' ∧ ShF B b w w' := by
  obtain ⟨cs, hcs, hA⟩ := h
  refine (Go.Proofs.YtnimhhhbefpifaaD.WriteString_at B b 0 43 cs _ t w (by rw [hcs]; exact sheet_lies) hA (by rw [Lib.strCells_length]; exact hs) hB).mono ?_
  rintro e w' ⟨rfl, ⟨v', h2⟩, h3, h4, h5, h6⟩
  refine ⟨rfl, ⟨(cs.setIfInBounds 0 (.pointer (some ⟨b, 0, none⟩))).setIfInBounds (0 + 1) v', by rw [Array.size_setIfInBounds, Array.size_setIfInBounds, hcs], ?_⟩, h3, h4, h5, h6⟩
  rw [Go.Proofs.YtnimhhhbefpifaaB.cells_add]
  exact h2
theorem sheet_string (B b : Nat) (s : ByteArray) (w : World) (h : Sheet B b s w) (hB : B ≤ w.heap.size) :
    Calls Try.prog 21 #[.pointer (some ⟨b, 0, none⟩)] w fun e w' => e = .returned (.string s) ∧ Sheet B b s w' ∧ ShF B b w w' := by
  obtain ⟨cs, hcs, hA⟩ := h
  refine (Go.Proofs.YtnimhhhbefpifaaD.String_at B b 0 43 cs s w hA hB).mono ?_
  rintro e w' ⟨rfl, h2, h3, h4, h5, h6⟩
  exact ⟨rfl, ⟨cs, hcs, h2⟩, fun K _ hK => h3 K hK, h4, fun k hk _ => h5 k hk, h6⟩
set_option maxHeartbeats 4000000 in
set_option maxRecDepth 100000 in
theorem sheet_num (B b : Nat) (s : ByteArray) (n : Int) (z : Nat) (w : World) (hz : z ≤ 8) (hs : s.size ≤ 70368744177664) (h : Sheet B b s w) (hB : B ≤ w.heap.size) :
    Calls Try.prog 18 #[.pointer (some ⟨b, 0, none⟩), .int .i64 n, .int .i64 (z : Int)] w fun e w' => (∃ v, e = .returned v) ∧ Sheet B b (wnum n z s) w' ∧ ShF B b w w' := by
  have hz2 := Aside0.mk hz
  have HW0 := Aside0.mk (show wrap64 ((z : Int) - 1) = (z : Int) - 1 by unfold wrap64; omega)
  have HS := Aside0.mk h
  have HZ := Aside0.mk hs
  have HBB := Aside0.mk hB
  clear hz h hs hB
  go_enter Try.func18, Try.ntmps18
  go_wp2
  go_loopw [6] (fun v w' => ∃ (m : Nat) (x : Int) (a : ByteArray), v = .int .i64 x ∧ x = (m : Int) - 1 ∧ m ≤ z ∧ Aside0 (wnum n m a = wnum n z s) ∧ Aside0 (a.size + m = s.size + z) ∧ Aside0 (Sheet B b a w') ∧ Aside0 (ShF B b w w')) (fun v _ => (intOf v + 1).toNat)
  case atStart => exact ⟨z, _, s, rfl, by first | exact HW0.out | rfl, Nat.le_refl _, ⟨rfl⟩, ⟨rfl⟩, HS, ⟨ShF.refl _ _ _⟩⟩
  case round =>
    obtain ⟨m, x, a, rfl, hx, hm, HE, HL, HA, HF⟩ := hrel
    have hm8 : m ≤ 8 := Nat.le_trans hm hz2.out
    by_cases h0 : m = 0
    · subst h0
      have hxn : decide (0 ≤ x) = false := decide_eq_false (by omega)
      have hx1 : ¬ 0 ≤ x := by omega
      go_wp2
      go_end0
      have e0 : a = wnum n z s := HE.out
      exact ⟨⟨_, rfl⟩, e0 ▸ HA.out, HF.out⟩
    · have hxp : decide (0 ≤ x) = true := decide_eq_true (by omega)
      have hx0 : 0 ≤ x := by omega
      have hx8 : x ≤ 7 := by omega
      obtain ⟨q, rfl⟩ : ∃ q, m = q + 1 := ⟨m - 1, by omega⟩
      obtain rfl : x = (q : Int) := by omega
      have hww : IntKind.i64.wrap (8 * (q : Int)) = 8 * (q : Int) := by rw [IntKind.wrap_i64]; omega
      have hw8 : wrap64 (8 * (q : Int)) = 8 * (q : Int) := by unfold wrap64; omega
      have hw1 : wrap64 ((q : Int) - 1) = (q : Int) - 1 := by unfold wrap64; omega
      have hq8 : 0 ≤ 8 * (q : Int) := by omega
      have hq9 : 8 * (q : Int) ≤ 56 := by omega
      obtain ⟨c, hc⟩ : ∃ c, (shr .i64 n (8 * (q : Int))) % 256 = c := ⟨_, rfl⟩
      have hc0 : 0 ≤ c := by rw [← hc]; exact Int.emod_nonneg _ (by decide)
      have hc1 : c ≤ 255 := by have := Int.emod_lt_of_pos (shr .i64 n (8 * (q : Int))) (show (0 : Int) < 256 by decide); omega
      have HC_ := Aside0.mk hc
      have HW1 := Aside0.mk hw1
      clear hc hw8 hw1 hx
      go_wp2
      go_still_tail 8, (by kernel_rfl)
      have HA2 := Aside0.mk (show Sheet B b a wr.drew from HA.out)
      have HF2 := Aside0.mk (HF.out.trans (⟨fun K _ _ => Below.drew (Below.refl K wr), Nat.le_refl _, fun _ _ _ => rfl, (Lib.OthersKept.refl _ _ wr).drew⟩ : ShF B b wr wr.drew))
      have hcw : IntKind.u8.wrap (n / 2 ^ (8 * (q : Int)).toNat) = c := by
        rw [IntKind.wrap_u8', ← HC_.out]
        unfold shr
        rw [show min (8 * (q : Int)).toNat IntKind.i64.bits = (8 * (q : Int)).toNat from Nat.min_eq_left (by show (8 * (q : Int)).toNat ≤ 64; omega)]
      rw [hcw]
      have hBw := Aside0.mk (Nat.le_trans HBB.out HF2.out.2.1)
      have hsz := Aside0.mk (show a.size + 1 ≤ 140737488355328 by have := HL.out; have := HZ.out; have := hz2.out; omega)
      change wpList _ _ _ _ _ wr.drew
      generalize wr.drew = w2 at HA2 HF2 hBw ⊢
      clear hcw HA HF
      have hc0' := Aside0.mk hc0
      have hc1' := Aside0.mk hc1
      clear hc0 hc1 hww hq8 hq9 hx8 hx0 hxp
      go_wp2_with (go_at_call 37; (with_reducible refine (sheet_byte B b a c _ hc0'.out hc1'.out hsz.out HA2.out hBw.out).mono ?_); rintro e w3 ⟨rfl, h1, h2⟩; have H1 := Aside0.mk h1; have H2 := Aside0.mk (HF2.out.trans h2); clear h1 h2 HA2 HF2)
      go_roundw
      case rel => exact ⟨q, (q : Int) - 1, a.push (UInt8.ofNat c.toNat), by first | rfl | (rw [HW1.out]), rfl, by omega, ⟨by rw [← HE.out, ← HC_.out]; rfl⟩, ⟨by rw [ByteArray.size_push]; have := HL.out; omega⟩, H1, H2⟩
      case measure => first | (simp [intOf]; done) | (simp [intOf]; omega)
set_option maxHeartbeats 4000000 in
set_option maxRecDepth 100000 in
theorem sheet_text (B b : Nat) (s t : ByteArray) (z : Nat) (w : World) (hz : z ≤ 8) (hs : s.size ≤ 35184372088832) (ht : t.size ≤ 35184372088832) (h : Sheet B b s w) (hB : B ≤ w.heap.size) :
    Calls Try.prog 19 #[.pointer (some ⟨b, 0, none⟩), .string t, .int .i64 (z : Int)] w fun e w' => (∃ v, e = .returned v) ∧ Sheet B b (wtext t z s) w' ∧ ShF B b w w' := by
  have C1 := Aside0.mk (sheet_num B b s (t.size : Int) z w hz (by omega) h hB)
  have HZ := Aside0.mk (show (wnum (t.size : Int) z s).size + t.size ≤ 140737488355328 by rw [wnum_size]; omega)
  have HBB := Aside0.mk hB
  clear hz hs ht h hB
  go_enter Try.func19, Try.ntmps19
  go_wp2_with (go_at_call 18; (with_reducible refine C1.out.mono ?_); rintro e w1 ⟨⟨v1, rfl⟩, h1, h2⟩; have H1 := Aside0.mk h1; have H2 := Aside0.mk h2; have HB1 := Aside0.mk (Nat.le_trans HBB.out h2.2.1); clear h1 h2)
  go_wp2_with (go_at_call 38; (with_reducible refine (sheet_str B b _ t _ HZ.out H1.out HB1.out).mono ?_); rintro e w2 ⟨rfl, h1, h2⟩; have H3 := Aside0.mk h1; have H4 := Aside0.mk h2; clear h1 h2)
  go_end0
  exact ⟨⟨_, rfl⟩, H3.out, H2.out.trans H4.out⟩
/-! ### Encode -/
/-- Another block's sheet stays. -/
theorem Sheet.keep {B b g : Nat} {s : ByteArray} {w w' : World} (h : Sheet B b s w) (hb : b ≠ g) {cs : Array Value} (hg : w.heap[g]? = some (.cells cs 43 (0, 0))) (hB : Below 0 w w') (hk : ∀ k, k < w.heap.size → k ≠ g → w'.heap[k]? = w.heap[k]?) : Sheet B b s w' := by
  obtain ⟨cs', hcs, hbk, p, v, e1, e2, e3, e4, e5⟩ := h
  have hlt : b < w.heap.size := (Array.getElem?_eq_some_iff.1 hbk).1
  refine ⟨cs', hcs, (hk b hlt hb).trans hbk, p, v, e1, e2, e3, ?_, e5⟩
  exact e4.kept (⟨hB.os, hB.tape, hB.output, hB.size, fun k h1 h2 => hk k h1 (fun e => h2 (by rw [e]))⟩ : w.grownBy w' (some g)) (.inr (Lib.ownBlock_neF e4 hg (by decide)))
/-- What stands while a message is laid: the message, the sum's sheet (still empty), the sheet. -/
structure EncS (w : World) (gb gs gm : Nat) (msg : Array Value) (cur : ByteArray) (wc : World) : Prop where
  below : Below w.heap.size w wc
  m : wc.heap[gb]? = some (.cells msg 26 (0, 0))
  f : wc.heap[gm]? = some (.cells #[.pointer none, .slice none 0 0] 43 (0, 0))
  s : Sheet w.heap.size gs cur wc
  n1 : gb ≠ gs
  n2 : gm ≠ gs
  le : w.heap.size ≤ gs
theorem EncS.step {w : World} {gb gs gm : Nat} {msg : Array Value} {cur cur' : ByteArray} {wc w' : World} (h : EncS w gb gs gm msg cur wc) (hs : Sheet w.heap.size gs cur' w') (hf : ShF w.heap.size gs wc w') : EncS w gb gs gm msg cur' w' :=
  ⟨h.below.trans (hf.1 _ h.le (Nat.le_refl _)), hf.2.2.2 gb _ h.m (fun e => h.n1 (Option.some.inj e)) (fun c fz e => by injection e with _ e; exact absurd e (by decide)), hf.2.2.2 gm _ h.f (fun e => h.n2 (Option.some.inj e)) (fun c fz e => by injection e with _ e; exact absurd e (by decide)), hs, h.n1, h.n2, h.le⟩
theorem EncS.drewN {w : World} {gb gs gm : Nat} {msg : Array Value} {cur : ByteArray} {wc : World} (h : EncS w gb gs gm msg cur wc) (n : Nat) : EncS w gb gs gm msg cur (wc.drewN n) :=
  ⟨pw_below_drewN h.below n, h.m, h.f, h.s, h.n1, h.n2, h.le⟩
theorem enc_num {w : World} {gb gs gm : Nat} {msg : Array Value} {cur : ByteArray} {wc : World} (n z : Int) (h : EncS w gb gs gm msg cur wc) (h0 : 0 ≤ z) (h8 : z ≤ 8) (hs : cur.size ≤ 35184372088832) :
    Calls Try.prog 18 #[.pointer (some ⟨gs, 0, none⟩), .int .i64 n, .int .i64 z] wc fun e w' => (∃ v, e = .returned v) ∧ EncS w gb gs gm msg (wnum n z.toNat cur) w' := by
  have hz : ((z.toNat : Nat) : Int) = z := by omega
  have c := sheet_num w.heap.size gs cur n z.toNat wc (by omega) (by omega) h.s h.below.size
  rw [hz] at c
  exact c.mono fun e w' ⟨h1, h2, h3⟩ => ⟨h1, h.step h2 h3⟩
theorem enc_text {w : World} {gb gs gm : Nat} {msg : Array Value} {cur : ByteArray} {wc : World} (t : ByteArray) (z : Int) (h : EncS w gb gs gm msg cur wc) (h0 : 0 ≤ z) (h8 : z ≤ 8) (hs : cur.size ≤ 35184372088832) (ht : t.size ≤ 35184372088832) :
    Calls Try.prog 19 #[.pointer (some ⟨gs, 0, none⟩), .string t, .int .i64 z] wc fun e w' => (∃ v, e = .returned v) ∧ EncS w gb gs gm msg (wtext t z.toNat cur) w' := by
  have hz : ((z.toNat : Nat) : Int) = z := by omega
  have c := sheet_text w.heap.size gs cur t z.toNat wc (by omega) hs ht h.s h.below.size
  rw [hz] at c
  exact c.mono fun e w' ⟨h1, h2, h3⟩ => ⟨h1, h.step h2 h3⟩
theorem enc_string {w : World} {gb gs gm : Nat} {msg : Array Value} {cur : ByteArray} {wc : World} (h : EncS w gb gs gm msg cur wc) :
    Calls Try.prog 21 #[.pointer (some ⟨gs, 0, none⟩)] wc fun e w' => e = .returned (.string cur) ∧ EncS w gb gs gm msg cur w' :=
  (sheet_string w.heap.size gs cur wc h.s h.below.size).mono fun e w' ⟨h1, h2, h3⟩ => ⟨h1, h.step h2 h3⟩
/-- .. and while its sum is laid: wb is the world in which that began. -/
structure EncT (w wb : World) (gs gm : Nat) (cur sm : ByteArray) (wc : World) : Prop where
  below : Below w.heap.size w wc
  s : Sheet w.heap.size gs cur wb
  t : ∃ cs : Array Value, wb.heap[gm]? = some (.cells cs 43 (0, 0))
  m : Sheet wb.heap.size gm sm wc
  same : ∀ k, k < wb.heap.size → k ≠ gm → wc.heap[k]? = wb.heap[k]?
  b0 : Below 0 wb wc
  n2 : gm ≠ gs
  le : w.heap.size ≤ gs
  lm : w.heap.size ≤ gm
  wb_ : w.heap.size ≤ wb.heap.size
theorem enc_sum {w : World} {gb gs gm : Nat} {msg : Array Value} {cur : ByteArray} {wc : World} (n : Int) (h : EncS w gb gs gm msg cur wc) (lm : w.heap.size ≤ gm) :
    Calls Try.prog 18 #[.pointer (some ⟨gm, 0, none⟩), .int .i64 n, .int .i64 4] wc fun e w' => (∃ v, e = .returned v) ∧ EncT w wc gs gm cur (wnum n 4 ByteArray.empty) w' := by
  have hm : Sheet wc.heap.size gm ByteArray.empty wc := ⟨_, rfl, Go.Proofs.YtnimhhhbefpifaaD.BAt.fresh h.f rfl rfl⟩
  refine (sheet_num wc.heap.size gm ByteArray.empty n 4 wc (by omega) (by decide) hm (Nat.le_refl _)).mono ?_
  rintro e w' ⟨h1, h2, h3⟩
  exact ⟨h1, h.below.trans (h3.1 _ lm h.below.size), h.s, ⟨_, h.f⟩, h2, h3.2.2.1, h3.1 0 (Nat.zero_le _) (Nat.zero_le _), h.n2, h.le, lm, h.below.size⟩
theorem enc_sum_string {w wb : World} {gs gm : Nat} {cur sm : ByteArray} {wc : World} (h : EncT w wb gs gm cur sm wc) :
    Calls Try.prog 21 #[.pointer (some ⟨gm, 0, none⟩)] wc fun e w' => e = .returned (.string sm) ∧ EncT w wb gs gm cur sm w' := by
  refine (sheet_string wb.heap.size gm sm wc h.m h.b0.size).mono ?_
  rintro e w' ⟨h1, h2, h3⟩
  exact ⟨h1, h.below.trans (h3.1 _ h.lm h.wb_), h.s, h.t, h2, fun k hk hkm => (h3.2.2.1 k hk hkm).trans (h.same k hk hkm), h.b0.trans (h3.1 0 (Nat.zero_le _) (Nat.zero_le _)), h.n2, h.le, h.lm, h.wb_⟩
theorem enc_own_string {w wb : World} {gs gm : Nat} {cur sm : ByteArray} {wc : World} (h : EncT w wb gs gm cur sm wc) :
    Calls Try.prog 21 #[.pointer (some ⟨gs, 0, none⟩)] wc fun e w' => e = .returned (.string cur) ∧ Below w.heap.size w w' := by
  obtain ⟨cs, ht⟩ := h.t
  have hs : Sheet w.heap.size gs cur wc := h.s.keep (Ne.symm h.n2) ht h.b0 (fun k hk hkm => h.same k hk hkm)
  refine (sheet_string w.heap.size gs cur wc hs h.below.size).mono ?_
  rintro e w' ⟨h1, h2, h3⟩
  exact ⟨h1, h.below.trans (h3.1 _ h.le (Nat.le_refl _))⟩
/-- What a message's bytes are, without their sum: ahead of its bands, and with n of them. -/
def wenc (a0 a1 a2 a3 : Int) (a4 : ByteArray) (a5 a6 : Int) (a7 : ByteArray) (m : Int) : ByteArray :=
  wnum m 2 (wtext a7 4 (wnum a6 2 (wnum a5 8 (wtext a4 1 (wnum a3 8 (wnum a2 2 (wnum a1 2 (wnum a0 1 ByteArray.empty))))))))
theorem wenc_size (a0 a1 a2 a3 : Int) (a4 : ByteArray) (a5 a6 : Int) (a7 : ByteArray) (m : Int) : (wenc a0 a1 a2 a3 a4 a5 a6 a7 m).size = 30 + a4.size + a7.size := by
  unfold wenc wtext
  simp only [wnum_size, ByteArray.size_append]
  have : ByteArray.empty.size = 0 := rfl
  omega
def wbands (l : List ByteArray) (s : ByteArray) : Nat → ByteArray
  | 0 => s
  | i + 1 => wtext (rdOf ByteArray.empty l (i : Int)) 4 (wbands l s i)
theorem wbands_mono (l : List ByteArray) (s : ByteArray) (i : Nat) : ∀ j, (wbands l s i).size ≤ (wbands l s (i + j)).size
  | 0 => Nat.le_refl _
  | j + 1 => by
    refine Nat.le_trans (wbands_mono l s i j) ?_
    show _ ≤ (wtext _ 4 (wbands l s (i + j))).size
    unfold wtext
    rw [ByteArray.size_append, wnum_size]
    omega
theorem wbands_ge (l : List ByteArray) (s : ByteArray) : ∀ i, i ≤ (wbands l s i).size
  | 0 => Nat.zero_le _
  | i + 1 => by
    have := wbands_ge l s i
    show _ ≤ (wtext _ 4 (wbands l s i)).size
    unfold wtext
    rw [ByteArray.size_append, wnum_size]
    omega
theorem wbands_part (l : List ByteArray) (s : ByteArray) (i : Nat) : (rdOf ByteArray.empty l (i : Int)).size ≤ (wbands l s (i + 1)).size := by
  show _ ≤ (wtext _ 4 (wbands l s i)).size
  unfold wtext
  rw [ByteArray.size_append]
  omega
theorem mea {i n : Nat} {x : Int} (h : i < n) (hx : x = ((i + 1 : Nat) : Int)) : ((n : Int) - intOf (.int .i64 x)).toNat < ((n : Int) - intOf (.int .i64 (i : Int))).toNat := by
  subst hx
  show ((n : Int) - ((i + 1 : Nat) : Int)).toNat < ((n : Int) - (i : Int)).toNat
  omega
def wire_Encode.f (k : Nat) (a0_0 : Int) (a0_1 : Int) (a0_2 : Int) (a0_3 : Int) (a0_4 : ByteArray) (a0_5 : Int) (a0_6 : Int) (a0_7 : ByteArray) (l0_8 : List ByteArray) : Option (ByteArray × Int) :=
  (wire_right.f k a0_0 a0_1 a0_2 a0_3 a0_4 a0_5 a0_6 a0_7 l0_8).bind fun ok => if ok = true then (if (wbands l0_8 (wenc a0_0 a0_1 a0_2 a0_3 a0_4 a0_5 a0_6 a0_7 (l0_8.length : Int)) l0_8.length).size ≤ 1099511627776 then ((bits_Crc.f k (wbands l0_8 (wenc a0_0 a0_1 a0_2 a0_3 a0_4 a0_5 a0_6 a0_7 (l0_8.length : Int)) l0_8.length)).bind fun c => some (wnum c 4 ByteArray.empty ++ wbands l0_8 (wenc a0_0 a0_1 a0_2 a0_3 a0_4 a0_5 a0_6 a0_7 (l0_8.length : Int)) l0_8.length, 0)) else none) else some (⟨#[]⟩, 60)
theorem wire_Encode.mono : ∀ a0 a1 a2 a3 a4 a5 a6 a7 a8 k, LeO (wire_Encode.f k a0 a1 a2 a3 a4 a5 a6 a7 a8) (wire_Encode.f (k + 1) a0 a1 a2 a3 a4 a5 a6 a7 a8) := by
  intro a0 a1 a2 a3 a4 a5 a6 a7 a8 k
  unfold wire_Encode.f
  exact LeO.bind (wire_right.mono _ _ _ _ _ _ _ _ _ _) (fun _ => LeO.ite (LeO.ite (LeO.bind (bits_Crc.mono _ _) (fun _ => LeO.refl _)) (LeO.refl _)) (LeO.refl _))
set_option maxHeartbeats 8000000 in
set_option maxRecDepth 100000 in
theorem wire_Encode.calls (k : Nat) (a0_0 : Int) (a0_1 : Int) (a0_2 : Int) (a0_3 : Int) (a0_4 : ByteArray) (a0_5 : Int) (a0_6 : Int) (a0_7 : ByteArray) (A0_8 : Option Addr) (c0_8 : Nat) (l0_8 : List ByteArray) (r1 : ByteArray) (r2 : Int) (w : World) (hr0_8 : Kd.C Kd.string w A0_8 l0_8.length l0_8) (hc0_8 : l0_8.length ≤ c0_8) (h : wire_Encode.f k a0_0 a0_1 a0_2 a0_3 a0_4 a0_5 a0_6 a0_7 l0_8 = some (r1, r2)) :
    Calls Try.prog 11 #[.agg #[.int .i64 a0_0, .int .i64 a0_1, .int .i64 a0_2, .int .i64 a0_3, .string a0_4, .int .i64 a0_5, .int .i64 a0_6, .string a0_7, .slice A0_8 l0_8.length c0_8]] w fun e w' => e = .returned (.tuple #[.string r1, .int .i64 r2]) ∧ Below w.heap.size w w' := by
  have hu26 := Try.underlying26
  unfold wire_Encode.f at h
  replace h := Option.bind_eq_some_iff.mp h
  obtain ⟨ok, hok, h⟩ := h
  obtain ⟨msg, hmsg⟩ : ∃ m : Array Value, #[Value.int .i64 a0_0, .int .i64 a0_1, .int .i64 a0_2, .int .i64 a0_3, .string a0_4, .int .i64 a0_5, .int .i64 a0_6, .string a0_7, .slice A0_8 l0_8.length c0_8] = m := ⟨_, rfl⟩
  have HMSG := Aside0.mk hmsg
  have CR := Aside0.mk (wire_right.calls k a0_0 a0_1 a0_2 a0_3 a0_4 a0_5 a0_6 a0_7 A0_8 c0_8 l0_8 ok (w.alloc (.cells #[.int .i64 a0_0, .int .i64 a0_1, .int .i64 a0_2, .int .i64 a0_3, .string a0_4, .int .i64 a0_5, .int .i64 a0_6, .string a0_7, .slice A0_8 l0_8.length c0_8] 26)) (Kd.C_alloc hr0_8 _) hc0_8 hok)
  have HB0 := Aside0.mk (below_alloc (Below.refl w.heap.size w) (.cells #[.int .i64 a0_0, .int .i64 a0_1, .int .i64 a0_2, .int .i64 a0_3, .string a0_4, .int .i64 a0_5, .int .i64 a0_6, .string a0_7, .slice A0_8 l0_8.length c0_8] 26))
  clear hmsg hok
  have HR := Aside0.mk hr0_8
  have HC := Aside0.mk hc0_8
  clear hr0_8 hc0_8
  cases ok with
  | false =>
    rw [if_neg (by decide)] at h
    simp only [Option.some.injEq, Prod.mk.injEq] at h
    obtain ⟨rfl, rfl⟩ := h
    go_enter Try.func11, Try.ntmps11
    go_wp2_with (go_at_call 17; (with_reducible refine CR.out.mono ?_); rintro e w2 ⟨rfl, hb⟩; have HB2 := Aside0.mk (HB0.out.trans (hb.mono (by simp))); clear hb)
    go_ret2
    exact ⟨rfl, HB2.out⟩
  | true =>
    rw [if_pos rfl] at h
    by_cases hz : (wbands l0_8 (wenc a0_0 a0_1 a0_2 a0_3 a0_4 a0_5 a0_6 a0_7 (l0_8.length : Int)) l0_8.length).size ≤ 1099511627776
    · rw [if_pos hz] at h
      replace h := Option.bind_eq_some_iff.mp h
      obtain ⟨c, hc, h⟩ := h
      simp only [Option.some.injEq, Prod.mk.injEq] at h
      obtain ⟨rfl, rfl⟩ := h
      have HBD := Aside0.mk (show ∀ i : Nat, i ≤ l0_8.length → (wbands l0_8 (wenc a0_0 a0_1 a0_2 a0_3 a0_4 a0_5 a0_6 a0_7 (l0_8.length : Int)) i).size ≤ 1099511627776 from fun i hi => by
        have := wbands_mono l0_8 (wenc a0_0 a0_1 a0_2 a0_3 a0_4 a0_5 a0_6 a0_7 (l0_8.length : Int)) i (l0_8.length - i)
        rw [show i + (l0_8.length - i) = l0_8.length by omega] at this
        omega)
      have HSZ := Aside0.mk (show a0_4.size + a0_7.size ≤ 1099511627776 by
        have h1 := HBD.out 0 (Nat.zero_le _)
        have h2 : (wenc a0_0 a0_1 a0_2 a0_3 a0_4 a0_5 a0_6 a0_7 (l0_8.length : Int)).size ≤ 1099511627776 := h1
        rw [wenc_size] at h2
        omega)
      have HCRC := Aside0.mk (fun w => bits_Crc.calls k (wbands l0_8 (wenc a0_0 a0_1 a0_2 a0_3 a0_4 a0_5 a0_6 a0_7 (l0_8.length : Int)) l0_8.length) c w hc)
      have HEM := Aside0.mk (show ByteArray.empty.size = 0 from rfl)
      clear hz hc HMSG msg
      go_enter Try.func11, Try.ntmps11
      go_upto_region 4 with (go_at_call 17; (with_reducible refine CR.out.mono ?_); rintro e w2 ⟨rfl, hb⟩; have HB2 := Aside0.mk (HB0.out.trans (hb.mono (by simp))); have HM2 := Aside0.mk ((hb.block w.heap.size (by simp)).trans (heap_alloc_new w _)); have HS2 := Aside0.mk (show w.heap.size < w2.heap.size from Nat.lt_of_lt_of_le (by simp) hb.size); clear hb)
      have hlt_ := HS2.out
      have HE := Aside0.mk (show EncS w w.heap.size w2.heap.size (w2.heap.size + 1) #[.int .i64 a0_0, .int .i64 a0_1, .int .i64 a0_2, .int .i64 a0_3, .string a0_4, .int .i64 a0_5, .int .i64 a0_6, .string a0_7, .slice A0_8 l0_8.length c0_8] ByteArray.empty ((w2.alloc (.cells #[.pointer none, .slice none 0 0] 43)).alloc (.cells #[.pointer none, .slice none 0 0] 43)) from
        ⟨below_alloc (below_alloc HB2.out _) _, ((Lib.alloc_old _ _ _ (by simp; omega)).trans (Lib.alloc_old w2 _ _ hlt_)).trans HM2.out, by have := heap_alloc_new (w2.alloc (.cells #[.pointer none, .slice none 0 0] 43)) (.cells #[.pointer none, .slice none 0 0] 43); simpa using this, ⟨_, rfl, Go.Proofs.YtnimhhhbefpifaaD.BAt.fresh ((Lib.alloc_old _ _ _ (by simp)).trans (heap_alloc_new w2 _)) rfl rfl⟩, by omega, by omega, by omega⟩)
      have HLM := Aside0.mk (show w.heap.size ≤ w2.heap.size + 1 by omega)
      clear hlt_ HM2 HB2 HS2 CR HB0
      generalize (w2.alloc (.cells #[.pointer none, .slice none 0 0] 43)).alloc (.cells #[.pointer none, .slice none 0 0] 43) = w3 at HE ⊢
      generalize w2.heap.size + 1 = gm at HE HLM ⊢
      generalize w2.heap.size = gs at HE HLM ⊢
      have hz0 : w3.cell? ⟨w.heap.size, 0, none⟩ = some (.int .i64 a0_0) := (blk_cell HE.out.m 0).trans rfl
      have hz1 : w3.cell? ⟨w.heap.size, 1, none⟩ = some (.int .i64 a0_1) := (blk_cell HE.out.m 1).trans rfl
      have hz2 : w3.cell? ⟨w.heap.size, 2, none⟩ = some (.int .i64 a0_2) := (blk_cell HE.out.m 2).trans rfl
      have hz3 : w3.cell? ⟨w.heap.size, 3, none⟩ = some (.int .i64 a0_3) := (blk_cell HE.out.m 3).trans rfl
      have hz4 : w3.cell? ⟨w.heap.size, 4, none⟩ = some (.string a0_4) := (blk_cell HE.out.m 4).trans rfl
      have hz5 : w3.cell? ⟨w.heap.size, 5, none⟩ = some (.int .i64 a0_5) := (blk_cell HE.out.m 5).trans rfl
      have hz6 : w3.cell? ⟨w.heap.size, 6, none⟩ = some (.int .i64 a0_6) := (blk_cell HE.out.m 6).trans rfl
      have hz7 : w3.cell? ⟨w.heap.size, 7, none⟩ = some (.string a0_7) := (blk_cell HE.out.m 7).trans rfl
      have hz8 : w3.cell? ⟨w.heap.size, 8, none⟩ = some (.slice A0_8 l0_8.length c0_8) := (blk_cell HE.out.m 8).trans rfl
      go_wp2_with (first | (go_at_call 18; (with_reducible refine (enc_num _ _ HE.out (by decide) (by decide) (by (try simp only [wnum_size, wtext, ByteArray.size_append]); have := HSZ.out; have := HEM.out; omega)).mono ?_); rintro e wn ⟨⟨v_, rfl⟩, he_⟩; clear HE hz0 hz1 hz2 hz3 hz4 hz5 hz6 hz7 hz8; have HE := Aside0.mk he_; clear he_; have hz0 : wn.cell? ⟨w.heap.size, 0, none⟩ = some (.int .i64 a0_0) := (blk_cell HE.out.m 0).trans rfl; have hz1 : wn.cell? ⟨w.heap.size, 1, none⟩ = some (.int .i64 a0_1) := (blk_cell HE.out.m 1).trans rfl; have hz2 : wn.cell? ⟨w.heap.size, 2, none⟩ = some (.int .i64 a0_2) := (blk_cell HE.out.m 2).trans rfl; have hz3 : wn.cell? ⟨w.heap.size, 3, none⟩ = some (.int .i64 a0_3) := (blk_cell HE.out.m 3).trans rfl; have hz4 : wn.cell? ⟨w.heap.size, 4, none⟩ = some (.string a0_4) := (blk_cell HE.out.m 4).trans rfl; have hz5 : wn.cell? ⟨w.heap.size, 5, none⟩ = some (.int .i64 a0_5) := (blk_cell HE.out.m 5).trans rfl; have hz6 : wn.cell? ⟨w.heap.size, 6, none⟩ = some (.int .i64 a0_6) := (blk_cell HE.out.m 6).trans rfl; have hz7 : wn.cell? ⟨w.heap.size, 7, none⟩ = some (.string a0_7) := (blk_cell HE.out.m 7).trans rfl; have hz8 : wn.cell? ⟨w.heap.size, 8, none⟩ = some (.slice A0_8 l0_8.length c0_8) := (blk_cell HE.out.m 8).trans rfl) | (go_at_call 19; (with_reducible refine (enc_text _ _ HE.out (by decide) (by decide) (by (try simp only [wnum_size, wtext, ByteArray.size_append]); have := HSZ.out; have := HEM.out; omega) (by have := HSZ.out; omega)).mono ?_); rintro e wn ⟨⟨v_, rfl⟩, he_⟩; clear HE hz0 hz1 hz2 hz3 hz4 hz5 hz6 hz7 hz8; have HE := Aside0.mk he_; clear he_; have hz0 : wn.cell? ⟨w.heap.size, 0, none⟩ = some (.int .i64 a0_0) := (blk_cell HE.out.m 0).trans rfl; have hz1 : wn.cell? ⟨w.heap.size, 1, none⟩ = some (.int .i64 a0_1) := (blk_cell HE.out.m 1).trans rfl; have hz2 : wn.cell? ⟨w.heap.size, 2, none⟩ = some (.int .i64 a0_2) := (blk_cell HE.out.m 2).trans rfl; have hz3 : wn.cell? ⟨w.heap.size, 3, none⟩ = some (.int .i64 a0_3) := (blk_cell HE.out.m 3).trans rfl; have hz4 : wn.cell? ⟨w.heap.size, 4, none⟩ = some (.string a0_4) := (blk_cell HE.out.m 4).trans rfl; have hz5 : wn.cell? ⟨w.heap.size, 5, none⟩ = some (.int .i64 a0_5) := (blk_cell HE.out.m 5).trans rfl; have hz6 : wn.cell? ⟨w.heap.size, 6, none⟩ = some (.int .i64 a0_6) := (blk_cell HE.out.m 6).trans rfl; have hz7 : wn.cell? ⟨w.heap.size, 7, none⟩ = some (.string a0_7) := (blk_cell HE.out.m 7).trans rfl; have hz8 : wn.cell? ⟨w.heap.size, 8, none⟩ = some (.slice A0_8 l0_8.length c0_8) := (blk_cell HE.out.m 8).trans rfl))
      have hE0 := Aside0.mk (show EncS w w.heap.size gs gm #[.int .i64 a0_0, .int .i64 a0_1, .int .i64 a0_2, .int .i64 a0_3, .string a0_4, .int .i64 a0_5, .int .i64 a0_6, .string a0_7, .slice A0_8 l0_8.length c0_8] (wbands l0_8 (wenc a0_0 a0_1 a0_2 a0_3 a0_4 a0_5 a0_6 a0_7 (l0_8.length : Int)) 0) wn from HE.out)
      clear HE hz0 hz1 hz2 hz3 hz4 hz5 hz6 hz7 hz8
      have HLL := Aside0.mk (Nat.le_trans (wbands_ge l0_8 (wenc a0_0 a0_1 a0_2 a0_3 a0_4 a0_5 a0_6 a0_7 (l0_8.length : Int)) l0_8.length) (HBD.out _ (Nat.le_refl _)))
      have HPT := Aside0.mk (show ∀ i : Nat, i < l0_8.length → (rdOf ByteArray.empty l0_8 (i : Int)).size ≤ 1099511627776 from fun i hi => Nat.le_trans (wbands_part l0_8 (wenc a0_0 a0_1 a0_2 a0_3 a0_4 a0_5 a0_6 a0_7 (l0_8.length : Int)) i) (HBD.out _ hi))
      generalize hbs : wenc a0_0 a0_1 a0_2 a0_3 a0_4 a0_5 a0_6 a0_7 (l0_8.length : Int) = bs at hE0 HBD HCRC
      have HBS := Aside0.mk hbs.symm
      clear hbs
      go_loopw [44] (fun v w' => ∃ i : Nat, v = .int .i64 (i : Int) ∧ i ≤ l0_8.length ∧ Aside0 (EncS w w.heap.size gs gm #[.int .i64 a0_0, .int .i64 a0_1, .int .i64 a0_2, .int .i64 a0_3, .string a0_4, .int .i64 a0_5, .int .i64 a0_6, .string a0_7, .slice A0_8 l0_8.length c0_8] (wbands l0_8 bs i) w')) (fun v _ => ((l0_8.length : Int) - intOf v).toNat)
      case atStart => exact ⟨0, rfl, Nat.zero_le _, hE0⟩
      case round =>
        clear hE0
        obtain ⟨i, rfl, hi, HI⟩ := hrel
        by_cases hx : i < l0_8.length
        · have hxp : decide ((i : Int) < (l0_8.length : Int)) = true := decide_eq_true (by omega)
          have p0 : 0 ≤ (i : Int) := by omega
          have q0 : (i : Int) < (l0_8.length : Int) := by omega
          obtain ⟨ad, e1, e2⟩ := Kd.at_string (Kd.C_below HR.out HI.out.below) (i : Int) p0 q0
          cases e1
          have e3 := e2
          rw [Int.toNat_natCast] at e3
          have HW1 := Aside0.mk (show wrap64 ((i : Int) + 1) = ((i + 1 : Nat) : Int) by have := HLL.out; unfold wrap64; omega)
          have HX := Aside0.mk hx
          go_wp2_with (go_at_call 19; (with_reducible refine (enc_text _ _ HI.out (by decide) (by decide) (by have := HBD.out i (Nat.le_of_lt HX.out); omega) (by have := HPT.out i HX.out; omega)).mono ?_); rintro e wn ⟨⟨v_, rfl⟩, he_⟩; have HN := Aside0.mk he_; clear he_)
          go_roundw
          case rel => exact ⟨i + 1, by first | rfl | (rw [HW1.out]), HX.out, HN⟩
          case measure => exact mea HX.out HW1.out
        · obtain rfl : i = l0_8.length := by omega
          have hxn : decide ((l0_8.length : Int) < (l0_8.length : Int)) = false := decide_eq_false (by omega)
          clear hx
          have hsum : ¬ 9223372036854775807 < (wnum c 4 ByteArray.empty).size + (wbands l0_8 bs l0_8.length).size := by
            have := HBD.out _ (Nat.le_refl _)
            have := HEM.out
            rw [wnum_size]
            omega
          go_wp2_with (first
            | (go_at_call 20; (with_reducible refine (HCRC.out _).mono ?_); rintro e wn ⟨rfl, hb_⟩; obtain ⟨n_, rfl⟩ := hb_; have HS := Aside0.mk (HQ_.out.drewN n_); clear HQ_)
            | (go_at_call 18; (with_reducible refine (enc_sum _ HS.out HLM.out).mono ?_); rintro e wn ⟨⟨v_, rfl⟩, he_⟩; have HT := Aside0.mk he_; clear he_ HS)
            | (go_at_call 21; (with_reducible refine (enc_string HI.out).mono ?_); rintro e wn ⟨rfl, he_⟩; have HQ_ := Aside0.mk he_; clear he_ HI)
            | (go_at_call 21; (with_reducible refine (enc_sum_string HT.out).mono ?_); rintro e wn ⟨rfl, he_⟩; have HU := Aside0.mk he_; clear he_ HT)
            | (go_at_call 21; (with_reducible refine (enc_own_string HU.out).mono ?_); rintro e wn ⟨rfl, he_⟩; have HV := Aside0.mk he_; clear he_ HU))
          go_ret2
          exact ⟨by rw [HBS.out]; rfl, HV.out⟩
    · rw [if_neg hz] at h
      exact absurd h (by simp)

end Go.Proofs.Ytnimhhhbefpifaa.PL20
