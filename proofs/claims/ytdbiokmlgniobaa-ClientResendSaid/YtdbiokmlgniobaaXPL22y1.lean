/- What a client's memory holds, and what the methods that only read, or begin, answer: walks of the given program's functions. No conditions but those that each theorem names. -/
import Derived.Test.YtdbiokmlgniobaaXSets
import Derived.Test.YtdbiokmlgniobaaXV
import Derived.Maps.OwnOps
import Derived.Maps.Keyed
import Derived.LoopTactic
import Derived.StillTailTactics
import Derived.Laws.Rows
import Derived.Deep.QuietTactic
import Derived.BigQuiet
import Derived.Laws.Cover3
import Derived.Test.YtdbiokmlgniobaaXPL22x2
import Derived.Test.YtdbiokmlgniobaaXPL22x1
namespace Go.Proofs.Ytdbiokmlgniobaa.PL22
open Go.RowKit Go.Proofs.YtdbiokmlgniobaaW.PrintWords Go.Proofs.YtdbiokmlgniobaaW.PrintLast Go.Proofs.YtdbiokmlgniobaaW.PrintMore
attribute [local go_sem] max2_int min2_int max_two min_two max_three min_three max_four min_four
set_option linter.unusedVariables false
set_option linter.unusedSimpArgs false
attribute [local go_sem high] eqA23
open Go.Proofs.YtdbiokmlgniobaaSets (IsSet)
structure CS where
  id : Int
  n : Int
  op : Int
  ph : Int
  put : Bool
  best : S26
  work : S26
  en : Int
def CC (s : CS) (hv vb vw : Value) : Array Value := #[.int .i64 s.id, .int .i64 s.n, .int .i64 s.op, .int .i64 s.ph, .bool s.put, hv, .int .i64 s.best.f0, .int .i64 s.best.f1, .int .i64 s.best.f2, .int .i64 s.best.f3, .string s.best.f4, .int .i64 s.best.f5.f0, .int .i64 s.best.f5.f1, .string s.best.f6, vb, .int .i64 s.work.f0, .int .i64 s.work.f1, .int .i64 s.work.f2, .int .i64 s.work.f3, .string s.work.f4, .int .i64 s.work.f5.f0, .int .i64 s.work.f5.f1, .string s.work.f6, vw, .int .i64 s.en]
def m0 : S26 := ⟨0, 0, 0, 0, (⟨#[]⟩ : ByteArray), ⟨0, 0⟩, (⟨#[]⟩ : ByteArray), []⟩
def Fr (g : Nat) (row : Option Nat) (w w' : World) : Prop := w'.os = w.os ∧ w'.tape = w.tape ∧ w'.output = w.output ∧ KeepBut w w' g row
def RowOk (row row' : Option Nat) (w : World) : Prop := row' = row ∨ ∃ b, row' = some b ∧ w.heap.size ≤ b
theorem RowOk.trans {a b c : Option Nat} {w w1 : World} (h : RowOk a b w) (hs : w.heap.size ≤ w1.heap.size) (k : RowOk b c w1) : RowOk a c w := by
  rcases k with rfl | ⟨x, rfl, hx⟩
  · exact h
  · exact .inr ⟨x, rfl, by omega⟩
theorem Fr.refl (g : Nat) (row : Option Nat) (w : World) : Fr g row w w := ⟨rfl, rfl, rfl, KeepBut.refl _ _ _⟩
theorem Fr.trans {g : Nat} {row row1 : Option Nat} {w w1 w2 : World} (h : Fr g row w w1) (k : Fr g row1 w1 w2) (hr : RowOk row row1 w) : Fr g row w w2 :=
  ⟨k.1.trans h.1, k.2.1.trans h.2.1, k.2.2.1.trans h.2.2.1, h.2.2.2.trans k.2.2.2 hr⟩
theorem Fr.of_below {g : Nat} {row : Option Nat} {w w1 : World} (h : Below w.heap.size w w1) : Fr g row w w1 := ⟨h.os, h.tape, h.output, KeepBut.of_below h g row⟩
theorem Fr.below {g : Nat} {row : Option Nat} {w w1 w2 : World} (hb : Below w.heap.size w w1) (h : Fr g row w1 w2) (hg : w.heap.size ≤ g) (hr : ∀ b, row = some b → w.heap.size ≤ b) : Below w.heap.size w w2 :=
  ⟨h.1.trans hb.os, h.2.1.trans hb.tape, h.2.2.1.trans hb.output, Nat.le_trans hb.size h.2.2.2.1, fun k hk => (h.2.2.2.2 k (Nat.lt_of_lt_of_le hk hb.size) (by omega) (fun e => by have := hr k e.symm; omega)).trans (hb.block k hk)⟩
structure Ov (w : World) (g : Nat) (row : Option Nat) (L : List (Nat × Obj)) (wc : World) : Prop where
  fr : Fr g row w wc
  has : ∀ p ∈ L, wc.heap[p.1]? = some p.2 ∧ (w.heap.size ≤ p.1 ∨ p.1 = g ∨ some p.1 = row)
  ap : L.Pairwise (fun p q => p.1 ≠ q.1)
theorem Ov.new {w : World} {g : Nat} {o : Obj} (row : Option Nat) (h : w.heap[g]? = some o) : Ov w g row [(g, o)] w :=
  ⟨Fr.refl _ _ _, fun p hp => by obtain rfl := List.mem_singleton.1 hp; exact ⟨h, .inr (.inl rfl)⟩, List.pairwise_singleton _ _⟩
theorem Ov.new2 {w : World} {g gm : Nat} {o om : Obj} (h : w.heap[g]? = some o) (hm : w.heap[gm]? = some om) (hne : g ≠ gm) : Ov w g (some gm) [(g, o), (gm, om)] w :=
  ⟨Fr.refl _ _ _, fun p hp => by
    rcases List.mem_cons.1 hp with rfl | hp
    · exact ⟨h, .inr (.inl rfl)⟩
    · obtain rfl := List.mem_singleton.1 hp
      exact ⟨hm, .inr (.inr rfl)⟩, List.pairwise_cons.2 ⟨fun p hp => by obtain rfl := List.mem_singleton.1 hp; exact hne, List.pairwise_singleton _ _⟩⟩
section
variable {w wc w' : World} {g : Nat} {row : Option Nat} {L : List (Nat × Obj)}
theorem Ov.step (h : Ov w g row L wc) (hb : Below wc.heap.size wc w') : Ov w g row L w' :=
  ⟨h.fr.trans (Fr.of_below hb) (.inl rfl), fun p hp => ⟨blk_below (h.has p hp).1 hb, (h.has p hp).2⟩, h.ap⟩
theorem Ov.drew (h : Ov w g row L wc) : Ov w g row L wc.drew := h.step (below_drew1 (Below.refl _ _))
theorem Ov.drewN (h : Ov w g row L wc) (n : Nat) : Ov w g row L (wc.drewN n) := h.step (pw_below_drewN (Below.refl _ _) n)
theorem Ov.alloc (h : Ov w g row L wc) (o : Obj) : Ov w g row L (wc.alloc o) := h.step (below_alloc (Below.refl _ _) o)
theorem Ov.boxO (h : Ov w g row L wc) {x : Nat} {o : Obj} (hb : Below wc.heap.size wc w') (hg : x = wc.heap.size) (hx : w'.heap[x]? = some o) : Ov w g row ((x, o) :: L) w' := by
  have h1 := h.step hb
  refine ⟨h1.fr, fun p hp => ?_, List.pairwise_cons.2 ⟨fun p hp => ?_, h.ap⟩⟩
  · rcases List.mem_cons.1 hp with rfl | hp
    · exact ⟨hx, .inl (by rw [hg]; exact h.fr.2.2.2.1)⟩
    · exact h1.has p hp
  · show x ≠ p.1
    rw [hg]
    exact Nat.ne_of_gt (blk_lt (h.has p hp).1)
theorem Ov.box (h : Ov w g row L wc) {x : Nat} {cs : Array Value} {t : Nat} (hb : Below wc.heap.size wc w') (hg : x = wc.heap.size) (hx : w'.heap[x]? = some (.cells cs t (0, 0))) : Ov w g row ((x, .cells cs t (0, 0)) :: L) w' := h.boxO hb hg hx
theorem Ov.at (h : Ov w g row L wc) {x : Nat} {o : Obj} (i : Nat) (hi : L[i]? = some (x, o)) : wc.heap[x]? = some o := (h.has _ (List.mem_of_getElem? hi)).1
theorem Ov.cell (h : Ov w g row L wc) {x : Nat} {cs : Array Value} {t : Nat} (i : Nat) (hi : L[i]? = some (x, .cells cs t (0, 0))) (c : Nat) : wc.cell? ⟨x, c, none⟩ = cs[c]? := blk_cell (h.at i hi) c
theorem Ov.fz (h : Ov w g row L wc) {x : Nat} {cs : Array Value} {t : Nat} (i : Nat) (hi : L[i]? = some (x, .cells cs t (0, 0))) (c : Nat) : wc.frozen? ⟨x, c, none⟩ = false := blk_frozen (h.at i hi) c
theorem Fr.one {x : Nat} (h : Fr g row w wc) (hs : w'.os = wc.os ∧ w'.tape = wc.tape ∧ w'.output = wc.output ∧ wc.heap.size ≤ w'.heap.size) (hx : w.heap.size ≤ x ∨ x = g ∨ some x = row) (hk : ∀ k, k ≠ x → k < wc.heap.size → w'.heap[k]? = wc.heap[k]?) : Fr g row w w' :=
  ⟨hs.1.trans h.1, hs.2.1.trans h.2.1, hs.2.2.1.trans h.2.2.1, Nat.le_trans h.2.2.2.1 hs.2.2.2, fun k hk1 hk2 hk3 => by
    refine (hk k (fun e => ?_) (Nat.lt_of_lt_of_le hk1 h.2.2.2.1)).trans (h.2.2.2.2 k hk1 hk2 hk3)
    subst e
    rcases hx with hx | hx | hx
    · omega
    · exact hk2 hx
    · exact hk3 hx⟩
theorem Ov.one (h : Ov w g row L wc) {x : Nat} {o o' : Obj} (i : Nat) (hi : L[i]? = some (x, o)) (hs : w'.os = wc.os ∧ w'.tape = wc.tape ∧ w'.output = wc.output ∧ wc.heap.size ≤ w'.heap.size) (hx : w'.heap[x]? = some o') (hk : ∀ k, k ≠ x → k < wc.heap.size → w'.heap[k]? = wc.heap[k]?) : Ov w g row (L.set i (x, o')) w' := by
  obtain ⟨hi1, hi2⟩ := List.getElem?_eq_some_iff.1 hi
  have hge := (h.has _ (List.mem_of_getElem? hi)).2
  have hq := List.pairwise_iff_getElem.1 h.ap
  refine ⟨h.fr.one hs hge hk, fun p hp => ?_, ?_⟩
  · obtain ⟨j, hj⟩ := List.getElem?_of_mem hp
    rw [List.getElem?_set] at hj
    by_cases hij : i = j
    · rw [if_pos hij, if_pos hi1] at hj
      cases hj
      exact ⟨hx, hge⟩
    · rw [if_neg hij] at hj
      have hp2 := h.has p (List.mem_of_getElem? hj)
      refine ⟨(hk p.1 (fun e => ?_) (blk_lt hp2.1)).trans hp2.1, hp2.2⟩
      obtain ⟨hj1, hj2⟩ := List.getElem?_eq_some_iff.1 hj
      rcases Nat.lt_or_gt_of_ne hij with hlt | hlt
      · have := hq i j hi1 hj1 hlt
        rw [hi2, hj2] at this
        exact this e.symm
      · have := hq j i hj1 hi1 hlt
        rw [hi2, hj2] at this
        exact this e
  · rw [List.pairwise_iff_getElem]
    intro a b ha hb hab
    rw [List.length_set] at ha hb
    have key : ∀ (k : Nat) (hk : k < L.length), ((L.set i (x, o'))[k]'(by rw [List.length_set]; exact hk)).1 = L[k].1 := fun k hk => by
      rw [List.getElem_set]
      by_cases e : i = k
      · rw [if_pos e]
        subst e
        rw [hi2]
      · rw [if_neg e]
    rw [key a ha, key b hb]
    exact hq a b ha hb hab
theorem Ov.set (h : Ov w g row L wc) {x : Nat} {cs : Array Value} {t : Nat} (i : Nat) (hi : L[i]? = some (x, .cells cs t (0, 0))) (c : Nat) (v : Value) : Ov w g row (L.set i (x, .cells (cs.setIfInBounds c v) t (0, 0))) (wc.setCell ⟨x, c, none⟩ v) := by
  have hb := h.at i hi
  refine h.one i hi ⟨rfl, rfl, rfl, by simp [World.setCell]⟩ ?_ (fun k hk _ => Below.heap_setCell wc ⟨x, c, none⟩ v k hk)
  rw [setCell_eq_setRow wc x c cs t (0, 0) v hb]
  exact setRow_heap wc x cs _ t (0, 0) hb
theorem Ov.mapped (h : Ov w g row L wc) {x : Nat} {o o' : Obj} (i : Nat) (hi : L[i]? = some (x, o)) (hg : wc.grownBy w' (some x)) (hx : w'.heap[x]? = some o') : Ov w g row (L.set i (x, o')) w' :=
  h.one i hi ⟨hg.os, hg.tape, hg.output, hg.size⟩ hx (fun k hk hl => hg.block k hl (fun e => hk (Option.some.inj e)))
theorem Ov.after (h : Ov w g row L wc) {row1 : Option Nat} {o' : Obj} (k : Fr g row1 wc w') (hr : RowOk row row1 w) (hx : w'.heap[g]? = some o') : Ov w g row [(g, o')] w' :=
  ⟨h.fr.trans k hr, fun p hp => by obtain rfl := List.mem_singleton.1 hp; exact ⟨hx, .inr (.inl rfl)⟩, List.pairwise_singleton _ _⟩
theorem Ov.only (h : Ov w g row L wc) (i : Nat) {x : Nat} {o : Obj} (hi : L[i]? = some (x, o)) : Ov w g row [(x, o)] wc :=
  ⟨h.fr, fun p hp => by obtain rfl := List.mem_singleton.1 hp; exact h.has _ (List.mem_of_getElem? hi), List.pairwise_singleton _ _⟩
end
theorem R_fr {α : Type} {d : Kd α} {e base g : Nat} {row : Option Nat} {w w' : World} {v : Value} {xs : List α} {cs : Array Value} (h : d.R e w base (fun _ => True) v xs) (hg : w.heap[g]? = some (.cells cs 70 (0, 0)))
    (hm : ∀ b, row = some b → ∃ es clock, w.heap[b]? = some (.map es clock)) (ht : ∀ q, q ∈ e :: d.E → q ≠ 70) (hk : Fr g row w w') : d.R e w' base (fun _ => True) v xs := by
  refine Kd.R_mono (Kd.R_step (Kd.R_bound h) (fun k hk1 hk2 => ?_)) (fun _ _ => trivial)
  obtain ⟨_, _, _, q, hq, cells, hc⟩ := hk1
  refine hk.2.2.2.2 k hk2 (fun e1 => ?_) (fun e1 => ?_)
  · subst e1
    rw [hg] at hc
    injection hc with hc
    injection hc with _ hc _
    exact ht q hq hc.symm
  · obtain ⟨es, clock, hm1⟩ := hm k e1.symm
    rw [hm1] at hc
    cases hc
def ckey (x : Int) : Value := .int .i64 x
def HM (w : World) : Option Nat → List Int → Prop
  | none, H => H = []
  | some gm, H => IsSet Try.prog 3 4 ckey w gm H
def Cl (g : Nat) (row : Option Nat) (s : CS) (H : List Int) (w : World) : Prop :=
  ∃ vb vw, w.heap[g]? = some (.cells (CC s (.map row) vb vw) 70 (0, 0)) ∧ Kd.string.R 9 w 0 (fun _ => True) vb s.best.f7 ∧ Kd.string.R 9 w 0 (fun _ => True) vw s.work.f7 ∧ HM w row H
theorem set_obj {w : World} {gm : Nat} {H : List Int} (h : IsSet Try.prog 3 4 ckey w gm H) : ∃ es clock, w.heap[gm]? = some (.map es clock) := by
  obtain ⟨D, ⟨es, clock, h0, _⟩, _⟩ := h
  exact ⟨es, clock, h0⟩
theorem HM.obj {w : World} {row : Option Nat} {H : List Int} (h : HM w row H) : ∀ b, row = some b → ∃ es clock, w.heap[b]? = some (.map es clock) := fun b e => by
  subst e
  exact set_obj h
theorem HM.below {w w' : World} {row : Option Nat} {H : List Int} (h : HM w row H) (hb : Below w.heap.size w w') : HM w' row H := by
  cases row with
  | none => exact h
  | some gm => exact IsSet.below h hb
theorem HM.blk {w w' : World} {gm : Nat} {H : List Int} (h : HM w (some gm) H) (hb : w'.heap[gm]? = w.heap[gm]?) : HM w' (some gm) H := IsSet.block h hb
theorem str_not : ∀ q, q ∈ 9 :: Kd.string.E → q ≠ 70 := fun q hq => by
  rcases List.mem_cons.1 hq with rfl | h
  · decide
  · exact absurd h List.not_mem_nil
theorem Cl.below {g : Nat} {row : Option Nat} {s : CS} {H : List Int} {w w' : World} (h : Cl g row s H w) (hb : Below w.heap.size w w') : Cl g row s H w' := by
  obtain ⟨vb, vw, h1, h2, h3, h4⟩ := h
  exact ⟨vb, vw, blk_below h1 hb, Kd.R_below h2 hb, Kd.R_below h3 hb, h4.below hb⟩
theorem Cl.lt {g : Nat} {row : Option Nat} {s : CS} {H : List Int} {w : World} (h : Cl g row s H w) : g < w.heap.size := by
  obtain ⟨vb, vw, h1, h2⟩ := h
  exact blk_lt h1
theorem Cl.rows {g : Nat} {row : Option Nat} {s : CS} {H : List Int} {w w' : World} (hc : Cl g row s H w) {α : Type} {d : Kd α} {e base : Nat} {v : Value} {xs : List α} (h : d.R e w base (fun _ => True) v xs) (ht : ∀ q, q ∈ e :: d.E → q ≠ 70) (hk : Fr g row w w') : d.R e w' base (fun _ => True) v xs := by
  obtain ⟨vb, vw, h1, h2, h3, h4⟩ := hc
  exact R_fr h h1 h4.obj ht hk
theorem ck_zero (w : World) : (zeroValue 4).run Try.prog w = .ok (.bool false) w := by kernel_rfl
theorem ckey_inj (q r : Int) (h : ckey q = ckey r) : q = r := by
  unfold ckey at h
  simpa using h
theorem ck_law : Go.Maps.Keyed Try.prog 3 := Go.Maps.int_keyed Try.underlying3
theorem ck_key (x : Int) (h : -9223372036854775808 ≤ x ∧ x ≤ 9223372036854775807) : keyOf Try.prog 3 (ckey x) = some (.int .i64 x) :=
  Go.Maps.keyOf_int_mk Try.underlying3 (by simpa [Lit.wf, IntKind.min, IntKind.max, IntKind.signed, IntKind.bits] using h)
theorem ck_look {w : World} {gm : Nat} {H : List Int} (h : HM w (some gm) H) (x : Int) (hx : -9223372036854775808 ≤ x ∧ x ≤ 9223372036854775807) (b : Bool) (hb : decide (x ∈ H) = b) :
    (Instr.lookup 62 (.map (some gm)) (.int .i64 x) false).run Try.prog w = .ok (.bool b) w := by
  have h_ := IsSet.look h ck_law Try.underlying62 Try.underlying4 (ck_zero w) x (ck_key x hx)
  have e_ : ∀ i : Decidable (x ∈ H), @decide _ i = b := fun i => by rw [← hb]; congr
  rw [e_] at h_
  exact h_
theorem ck_len {w : World} {gm : Nat} {H : List Int} (h : HM w (some gm) H) (ty : TypeId) : (Builtin.len_ #[62] ty #[.map (some gm)]).run Try.prog w = .ok (.int .i64 H.length) w := IsSet.len h Try.underlying62 ty
theorem ck_put {w : World} {gm : Nat} {H : List Int} (h : HM w (some gm) H) (x : Int) (hx : -9223372036854775808 ≤ x ∧ x ≤ 9223372036854775807) (hn : H.length ≤ 1000) (hnew : x ∉ H) :
    ∃ w', (Instr.mapUpdate 62 (.map (some gm)) (.int .i64 x) (.bool true)).run Try.prog w = .ok () w' ∧ HM w' (some gm) (x :: H) ∧ w.grownBy w' (some gm) :=
  IsSet.store h ck_law ckey_inj Try.underlying62 Try.underlying4 (by unfold maxLen; omega) x (ck_key x hx) hnew
theorem R_new {α : Type} {d : Kd α} {e base gb : Nat} {W W' : World} {v : Value} {xs : List α} (h : d.R e W base (fun _ => True) v xs) (hb : Below W.heap.size W W') (hg : gb = W.heap.size) : d.R e W' base (fun k => k ≠ gb) v xs :=
  Kd.R_mono (Kd.R_below (Kd.R_bound h) hb) (fun k hk => by have := hk.2.2.1; omega)
theorem R_all {α : Type} {d : Kd α} {e base : Nat} {ok : Nat → Prop} {W : World} {v : Value} {xs : List α} (h : d.R e W base ok v xs) : d.R e W base (fun _ => True) v xs := Kd.R_mono h (fun _ _ => trivial)
theorem R_set {α : Type} {d : Kd α} {e base gb t c : Nat} {ok : Nat → Prop} {W : World} {v u : Value} {xs : List α} {cs : Array Value} (h : d.R e W base ok v xs) (hb : W.heap[gb]? = some (.cells cs t (0, 0))) (ht : ∀ q, q ∈ e :: d.E → q ≠ t) : d.R e (W.setCell ⟨gb, c, none⟩ u) base ok v xs :=
  Kd.R_mono (Kd.R_far (p := ⟨gb, c, none⟩) (Kd.R_types h hb ht) (fun k hk => hk.2) u) (fun k hk => hk.1)
theorem R_setN {α : Type} {d : Kd α} {e base gb c : Nat} {W : World} {v u : Value} {xs : List α} (h : d.R e W base (fun k => k ≠ gb) v xs) : d.R e (W.setCell ⟨gb, c, none⟩ u) base (fun k => k ≠ gb) v xs := Kd.R_far (p := ⟨gb, c, none⟩) h (fun k hk => hk) u
theorem ne_types {α β : Type} {d : Kd α} {d' : Kd β} {e e' b b' : Nat} {ok ok' : Nat → Prop} {w : World} {v v' : Value} {xs : List α} {ys : List β} (h : d.R e w b ok v xs) (h' : d'.R e' w b' ok' v' ys) (ht : e ≠ e') : ∀ k, v.ownBlock = some k → some k ≠ v'.ownBlock := by
  intro k hk hk'
  obtain ⟨i, ho⟩ := Kd.R_own h
  obtain ⟨c, hc⟩ := own_typed ho k hk
  obtain ⟨i', ho'⟩ := Kd.R_own h'
  obtain ⟨c', hc'⟩ := own_typed ho' k hk'.symm
  rw [hc] at hc'
  injection hc' with hc'
  injection hc' with _ hc' _
  exact ht hc'
def rsMsg (s : CS) (i : Int) : S26 := if s.ph = 2 then ⟨3, s.id, i, s.op, s.work.f4, s.work.f5, s.work.f6, s.work.f7⟩ else ⟨1, s.id, i, s.op, s.work.f4, ⟨0, 0⟩, (⟨#[]⟩ : ByteArray), []⟩
def rsUp (s : CS) (H : List Int) (i : Nat) : List S26 := ((List.range i).filter (fun j : Nat => decide (¬ (j : Int) ∈ H))).map (fun j : Nat => rsMsg s (j : Int))
theorem rsUp_in (s : CS) (H : List Int) (i : Nat) (h : (i : Int) ∈ H) : rsUp s H (i + 1) = rsUp s H i := by
  unfold rsUp
  rw [List.range_succ, List.filter_append]
  simp [h]
theorem rsUp_out (s : CS) (H : List Int) (i : Nat) (h : ¬ (i : Int) ∈ H) : rsUp s H (i + 1) = rsUp s H i ++ [rsMsg s (i : Int)] := by
  unfold rsUp
  rw [List.range_succ, List.filter_append]
  simp [h]
theorem rsUp_len (s : CS) (H : List Int) (i : Nat) : (rsUp s H i).length ≤ i := by
  unfold rsUp
  rw [List.length_map]
  exact Nat.le_trans (List.length_filter_le _ _) (by rw [List.length_range]; exact Nat.le_refl _)
def RetL (l : List S26) (w : World) (e : Ending) (w' : World) : Prop := ∃ v, e = .returned v ∧ Kd.R k26 26 w' w.heap.size (fun _ => True) v l ∧ Below w.heap.size w w'
theorem eql_nil (A : Option Addr) (n c : Nat) (W : World) : (Go.binOp .eql 24 (.slice A n c) (.slice none 0 0)).run Try.prog W = .ok (.bool A.isNone) W := by
  simp only [Go.binOp]
  simp [run_equal_slice_nil W 24 9 A n c Try.underlying24]
attribute [local go_sem] eql_nil
set_option maxHeartbeats 40000000 in
set_option maxRecDepth 100000 in
theorem clone_calls (A : Option Addr) (c : Nat) (l : List ByteArray) (w : World) (hr : Kd.string.C w A l.length l) (hc : l.length ≤ c) (hl : l.length ≤ 1000000) :
    Calls Try.prog 35 #[.slice A l.length c] w fun e w' => ∃ v, e = .returned v ∧ Kd.string.R 9 w' w.heap.size (fun _ => True) v l ∧ Below w.heap.size w w' := by
  have HR := Aside0.mk hr
  have HL := Aside0.mk hl
  clear hr hl hc
  cases A with
  | none =>
    have hz : l = [] := by
      have := HR.out.2.2
      cases l with
      | nil => rfl
      | cons x y => obtain ⟨ad, h, _⟩ := this (by simp); cases h
    subst hz
    go_enter Try.func35, Try.ntmps35
    go_wp2
    go_ret
    exact ⟨_, rfl, Kd.R_nil _ _ _ _ _, Below.refl _ _⟩
  | some ad =>
    go_enter Try.func35, Try.ntmps35
    have hinf : (Try.prog.info? 9).map (fun i => (i.zero, i.size, i.bytes)) = some (some (.string (⟨#[]⟩ : ByteArray)), 1, 16) := by kernel_rfl
    go_wp2_with (first | ((with_reducible refine gate_dst (N := 5) rfl ?_); refine Kd.R_lit Kd.string _ 9 ?hg (N := 5) ?hd (xs := ([] : List ByteArray)) (inner := []) (ok := fun _ => True) (okp := fun _ => True) ?hr ?hp (fun _ hk => hk) trivial (Below.refl _ _) (Nat.le_refl _) (by simp) ?_; (case hd => rfl); (case hg => rfl); (case hr => first | (go_simp; done) | (go_simp; rfl)); (case hp => exact (Reps.none _ _)); intro v1 w1 ho_ hb hg_ hnew_; have HO := Aside0.mk ho_; have HB := Aside0.mk hb; have HR1 := Aside0.mk (Kd.C_below HR.out hb); clear ho_ hb hg_ hnew_ HR) | ((with_reducible refine gate_builtin (b := .append) (xs := #[.tmp 5, .tmp 6]) rfl ?_); at_builtin; refine Kd.R_append_row Value.string ByteArray.empty (w0 := w) w.heap.size rfl (.tmp 5) (.tmp 6) 24 9 (.string (⟨#[]⟩ : ByteArray)) 16 rfl Try.underlying24 hinf rfl (by omega) v1 [] l (some ad) l.length c (fun _ => True) rfl rfl (fun _ _ => trivial) HO.out HR1.out HB.out (HB.out.size) (by have := HL.out; rw [List.length_nil]; omega) ?_; intro v2 w2 ho hb hg hat; have n0_ := Aside0.mk ho; have n1_ := Aside0.mk hb; clear HO HB ho hb hg hat; have HO := n0_; have HB := n1_; clear n0_ n1_))
    go_ret
    exact ⟨_, rfl, HO.out, HB.out⟩
def NewPost (w : World) (id n : Int) (e : Ending) (w' : World) : Prop := ∃ g, e = .returned (.tuple #[.pointer (some ⟨g, 0, none⟩), .int .i64 0]) ∧ w.heap.size ≤ g ∧ Cl g none ⟨id, n, 0, 0, false, m0, m0, 41⟩ [] w' ∧ Below w.heap.size w w'
set_option maxHeartbeats 40000000 in
set_option maxRecDepth 100000 in
theorem new_ok (id n : Int) (w : World) (h1 : ¬ n < 1) (h2 : ¬ 15 < n) (h3 : ¬ Int.tmod n 2 = 0) (h4 : ¬ id < n) (h5 : ¬ 1024 ≤ id) :
    Calls Try.prog 10 #[.int .i64 id, .int .i64 n] w (NewPost w id n) := by
  have b1 : decide (n < 1) = false := decide_eq_false h1
  have b2 : decide (15 < n) = false := decide_eq_false h2
  have b3 : (Int.tmod n 2 == 0) = false := beq_eq_false_iff_ne.mpr h3
  have b4 : decide (id < n) = false := decide_eq_false h4
  have b5 : decide (1024 ≤ id) = false := decide_eq_false h5
  clear h1 h2 h3 h4 h5
  go_enter Try.func10, Try.ntmps10
  go_wp2_with ((with_reducible refine gate_dst (N := 29) rfl ?_); refine box_event ?hg (N := 29) ?hd (cs := CC ⟨id, n, 0, 0, false, m0, m0, 41⟩ (.map none) (.slice none 0 0) (.slice none 0 0)) (t := 70) ?hr ?_; (case hd => rfl); (case hg => rfl); (case hr => first | (go_simp; done) | (go_simp; rfl)); intro g hg w1 hbox hb; have HG := Aside0.mk hg; have HB := Aside0.mk hb; have HX := Aside0.mk hbox; clear hg hb hbox)
  go_ret2
  exact ⟨g, rfl, by rw [HG.out]; exact Nat.le_refl _, ⟨_, _, HX.out, Kd.R_nil _ _ _ _ _, Kd.R_nil _ _ _ _ _, rfl⟩, HB.out⟩
def Ret (v : Value) (w : World) (e : Ending) (w' : World) : Prop := e = .returned v ∧ Below w.heap.size w w'
set_option maxHeartbeats 40000000 in
set_option maxRecDepth 100000 in
theorem new_bad (id n : Int) (w : World) (h : n < 1 ∨ 15 < n ∨ Int.tmod n 2 = 0 ∨ id < n ∨ 1024 ≤ id) :
    Calls Try.prog 10 #[.int .i64 id, .int .i64 n] w (Ret (.tuple #[.pointer none, .int .i64 1]) w) := by
  by_cases h1 : n < 1
  · have b1 : decide (n < 1) = true := decide_eq_true h1
    clear h h1
    go_enter Try.func10, Try.ntmps10
    go_wp2
    go_ret2
    exact ⟨rfl, Below.refl _ _⟩
  have b1 : decide (n < 1) = false := decide_eq_false h1
  by_cases h2 : 15 < n
  · have b2 : decide (15 < n) = true := decide_eq_true h2
    clear h h1 h2
    go_enter Try.func10, Try.ntmps10
    go_wp2
    go_ret2
    exact ⟨rfl, Below.refl _ _⟩
  have b2 : decide (15 < n) = false := decide_eq_false h2
  by_cases h3 : Int.tmod n 2 = 0
  · have b3 : (Int.tmod n 2 == 0) = true := beq_iff_eq.mpr h3
    clear h h1 h2 h3
    go_enter Try.func10, Try.ntmps10
    go_wp2
    go_ret2
    exact ⟨rfl, Below.refl _ _⟩
  have b3 : (Int.tmod n 2 == 0) = false := beq_eq_false_iff_ne.mpr h3
  by_cases h4 : id < n
  · have b4 : decide (id < n) = true := decide_eq_true h4
    clear h h1 h2 h3 h4
    go_enter Try.func10, Try.ntmps10
    go_wp2
    go_ret2
    exact ⟨rfl, Below.refl _ _⟩
  have b4 : decide (id < n) = false := decide_eq_false h4
  have b5 : decide (1024 ≤ id) = true := decide_eq_true (by omega)
  clear h h1 h2 h3 h4
  go_enter Try.func10, Try.ntmps10
  go_wp2
  go_ret2
  exact ⟨rfl, Below.refl _ _⟩
theorem cc3 (s : CS) (hv vb vw : Value) : (CC s hv vb vw)[3]? = some (.int .i64 s.ph) := rfl
set_option maxHeartbeats 40000000 in
set_option maxRecDepth 100000 in
theorem free_busy (g : Nat) (row : Option Nat) (s : CS) (H : List Int) (name : ByteArray) (w : World) (hc : Cl g row s H w) (hp : s.ph ≠ 0) : Calls Try.prog 32 #[.pointer (some ⟨g, 0, none⟩), .string name] w (Ret (.int .i64 61) w) := by
  obtain ⟨vb, vw, h1, _⟩ := hc
  have y3 := (blk_cell h1 3).trans (cc3 _ _ _ _)
  have q1 : (s.ph != 0) = true := bne_iff_ne.mpr hp
  clear h1 hp
  go_enter Try.func32, Try.ntmps32
  go_wp2
  go_ret
  exact ⟨rfl, Below.refl _ _⟩
set_option maxHeartbeats 40000000 in
set_option maxRecDepth 100000 in
theorem free_name (k : Nat) (g : Nat) (row : Option Nat) (s : CS) (H : List Int) (name : ByteArray) (r : Int) (w : World) (hc : Cl g row s H w) (hp : s.ph = 0) (hn : bands_Name.f k name = some r) : Calls Try.prog 32 #[.pointer (some ⟨g, 0, none⟩), .string name] w (Ret (.int .i64 r) w) := by
  obtain ⟨vb, vw, h1, _⟩ := hc
  have y3 := (blk_cell h1 3).trans (cc3 _ _ _ _)
  rw [hp] at y3
  have HN := Aside0.mk hn
  clear h1 hp hn
  go_enter Try.func32, Try.ntmps32
  go_wp2_with (go_at_call 29; (with_reducible refine (bands_Name.calls k name r _ HN.out).mono ?_); rintro e w1 ⟨rfl, hb⟩; have HB := Aside0.mk (hb.below); clear hb)
  go_ret
  exact ⟨rfl, HB.out⟩
theorem setc_far {w : World} {g gb c : Nat} {u : Value} {o : Obj} (h : w.heap[g]? = some o) (hne : g ≠ gb) : (w.setCell ⟨gb, c, none⟩ u).heap[g]? = some o := (Below.heap_setCell w ⟨gb, c, none⟩ u g hne).trans h
theorem str_msg : ∀ q, q ∈ 9 :: Kd.string.E → q ≠ 26 := fun q hq => by
  rcases List.mem_cons.1 hq with rfl | h
  · decide
  · exact absurd h List.not_mem_nil
theorem mea_px {i n : Nat} {x : Int} (h : i < n) (hx : x = ((i + 1 : Nat) : Int)) : n - (intOf (.int .i64 x)).toNat < n - (intOf (.int .i64 (i : Int))).toNat := by
  subst hx
  show n - (((i + 1 : Nat) : Int)).toNat < n - ((i : Int)).toNat
  omega
theorem msg_ver : ∀ q, q ∈ 26 :: k26.E → q ≠ 23 := by decide
open Go.Proofs.YtdbiokmlgniobaaV
theorem map_event {P : Program} {ops : Array Oper} {rest : List Oper} {o : Oper} {a : Act} {Q : Exit → Act → World → Prop} {W : World} (hgd : o.guard = none) {N : Tmp} (_hd : o.dst = some N)
    (hrun : (execOp a.eval o).run P W = .ok (.value (.map (some W.heap.size))) (W.alloc (.map #[] 0)))
    (h : ∀ gm, gm = W.heap.size → ∀ w1, w1.heap[gm]? = some (.map #[] 0) → Below W.heap.size W w1 → HM w1 (some gm) [] → wpList P ops Q rest (a.put o.dst (.map (some gm))) w1) : wpList P ops Q (o :: rest) a W :=
  Kd.event_run hgd hrun (h _ rfl _ (blk_new W _) (below_alloc (Below.refl _ _) _) (IsSet.made _ _ _ _ _))
theorem Cl.open {g : Nat} {row : Option Nat} {s : CS} {H : List Int} {w : World} (h : Cl g row s H w) : ∃ vb vw M, Ov w g row ((g, .cells (CC s (.map row) vb vw) 70 (0, 0)) :: M) w ∧ (∀ w', (∀ p ∈ M, w'.heap[p.1]? = some p.2) → HM w' row H) ∧ Kd.string.R 9 w 0 (fun _ => True) vb s.best.f7 ∧ Kd.string.R 9 w 0 (fun _ => True) vw s.work.f7 ∧ w.heap[g]? = some (.cells (CC s (.map row) vb vw) 70 (0, 0)) ∧ (∀ b, row = some b → ∃ es clock, w.heap[b]? = some (.map es clock)) ∧ (∀ p ∈ M, ∃ es clock, p.2 = .map es clock) := by
  obtain ⟨vb, vw, h1, h2, h3, h4⟩ := h
  cases row with
  | none => exact ⟨vb, vw, [], Ov.new none h1, fun _ _ => h4, h2, h3, h1, (fun _ e => by cases e), fun _ h_ => absurd h_ List.not_mem_nil⟩
  | some gm =>
    obtain ⟨es, clock, hm⟩ := set_obj h4
    refine ⟨vb, vw, [(gm, .map es clock)], Ov.new2 h1 hm (fun e => ?_), fun w' hk => HM.blk h4 ((hk _ List.mem_cons_self).trans hm.symm), h2, h3, h1, HM.obj h4, fun p hp => by obtain rfl := List.mem_singleton.1 hp; exact ⟨es, clock, rfl⟩⟩
    rw [e, hm] at h1
    cases h1
theorem Cl.shut {g : Nat} {row row' : Option Nat} {s s' : CS} {H' : List Int} {w w' : World} {vb vw vb' vw' hv : Value} {L : List (Nat × Obj)} (h1 : w.heap[g]? = some (.cells (CC s hv vb vw) 70 (0, 0))) (hmo : ∀ b, row = some b → ∃ es clock, w.heap[b]? = some (.map es clock))
    (HS : Ov w g row L w') (i : Nat) (hi : L[i]? = some (g, .cells (CC s' (.map row') vb' vw') 70 (0, 0))) (hh : HM w' row' H') (h2 : Kd.string.R 9 w' 0 (fun _ => True) vb' s'.best.f7) (h3 : Kd.string.R 9 w' 0 (fun _ => True) vw' s'.work.f7) : Cl g row' s' H' w' := ⟨vb', vw', HS.at i hi, h2, h3, hh⟩
theorem Ov.hm {w w' : World} {g : Nat} {row : Option Nat} {L M : List (Nat × Obj)} (h : Ov w g row L w') (hs : ∀ p ∈ M, p ∈ L) {H : List Int} {row1 : Option Nat} (hc : ∀ w', (∀ p ∈ M, w'.heap[p.1]? = some p.2) → HM w' row1 H) : HM w' row1 H := hc w' (fun p hp => (h.has p (hs p hp)).1)
def TurnPost (g : Nat) (row : Option Nat) (w : World) (s : CS) (l : List S26) (e : Ending) (w' : World) : Prop := ∃ v gm, e = .returned v ∧ w.heap.size ≤ gm ∧ Kd.R k26 26 w' w.heap.size (fun _ => True) v l ∧ Cl g (some gm) s [] w' ∧ Fr g row w w'
def PostB (g : Nat) (row : Option Nat) (w : World) (s : CS) (H : List Int) (l : List S26) (b : Bool) (e : Ending) (w' : World) : Prop := ∃ v row', e = .returned (.tuple #[v, .bool b]) ∧ Kd.R k26 26 w' w.heap.size (fun _ => True) v l ∧ Cl g row' s H w' ∧ Fr g row w w' ∧ RowOk row row' w
def FreeIs (k : Nat) (s : CS) (name : ByteArray) (er : Int) : Prop := (s.ph ≠ 0 ∧ er = 61) ∨ (s.ph = 0 ∧ bands_Name.f k name = some er)
theorem free_is {k : Nat} {g : Nat} {row : Option Nat} {s : CS} {H : List Int} {name : ByteArray} {er : Int} {w : World} (hc : Cl g row s H w) (h : FreeIs k s name er) : Calls Try.prog 32 #[.pointer (some ⟨g, 0, none⟩), .string name] w (Ret (.int .i64 er) w) := by
  rcases h with ⟨h1, rfl⟩ | ⟨h1, h2⟩
  · exact free_busy g row s H name w hc h1
  · exact free_name k g row s H name er w hc h1 h2
theorem Cl.open2 {g gm : Nat} {s : CS} {H : List Int} {w : World} (h : Cl g (some gm) s H w) : ∃ vb vw om, Ov w g (some gm) ((g, .cells (CC s (.map (some gm)) vb vw) 70 (0, 0)) :: (gm, om) :: []) w ∧ HM w (some gm) H ∧ Kd.string.R 9 w 0 (fun _ => True) vb s.best.f7 ∧ Kd.string.R 9 w 0 (fun _ => True) vw s.work.f7 ∧ w.heap[g]? = some (.cells (CC s (.map (some gm)) vb vw) 70 (0, 0)) ∧ w.heap[gm]? = some om := by
  obtain ⟨vb, vw, h1, h2, h3, h4⟩ := h
  obtain ⟨es, clock, hm⟩ := set_obj h4
  refine ⟨vb, vw, .map es clock, Ov.new2 h1 hm (fun e => ?_), h4, h2, h3, h1, hm⟩
  rw [e, hm] at h1
  cases h1
theorem HM.moN {w : World} {gm : Nat} {H : List Int} (h : HM w (some gm) H) : ∀ b, some gm = some b → ∃ es clock, w.heap[b]? = some (.map es clock) := HM.obj h
def PostG (g : Nat) (row : Option Nat) (w : World) (s : CS) (l : List S26) (e : Ending) (w' : World) : Prop := ∃ v gm, e = .returned (.tuple #[v, .int .i64 0]) ∧ w.heap.size ≤ gm ∧ Kd.R k26 26 w' w.heap.size (fun _ => True) v l ∧ Cl g (some gm) s [] w' ∧ Fr g row w w'
theorem results_ct4 {P : Program} {fn : Func} {p u1 u2 u3 : Tmp} {ty : TypeId} (h : fn.results = #[.cell p ty, .tmp u1, .tmp u2, .tmp u3]) (tmps : Array Value) (w : World) (g : Nat) (t : TypeId) (cs : Array Value) (fr : Nat × Nat) (d : TypeDesc)
    (hp : tmps.getD p undef = .pointer (some ⟨g, 0, none⟩)) (hg : w.heap[g]? = some (.cells cs t fr))
    (hu : P.underlying ty = some d) (hd : (match d with | .struct _ | .array _ _ => true | _ => false) = true) (hi : (P.info? ty).map (·.size) = some cs.size) :
    (results fn tmps).run P w = .ok (.tuple #[.agg cs, tmps.getD u1 undef, tmps.getD u2 undef, tmps.getD u3 undef]) w := by
  have hp' : tmps[p]?.getD undef = .pointer (some ⟨g, 0, none⟩) := by simpa using hp
  simp [results, h, hp', asAddr, run_loadVar_row w g t ty cs fr d hg hu hd hi]
theorem msg_not : ∀ q, q ∈ 26 :: k26.E → q ≠ 70 := by decide
def RetV (v0 v1 : Int) (m : ByteArray) (l : List ByteArray) (er : Int) (w : World) (e : Ending) (w' : World) : Prop := ∃ v, e = .returned (.tuple #[.agg #[.int .i64 v0, .int .i64 v1], .string m, v, .int .i64 er]) ∧ Kd.string.R 9 w' w.heap.size (fun _ => True) v l ∧ Below w.heap.size w w'
theorem row_some {gm n : Nat} {row' : Option Nat} {w : World} (h : RowOk (some gm) row' w) (h1 : n ≤ gm) (h2 : n ≤ w.heap.size) : ∃ gm', row' = some gm' ∧ n ≤ gm' := by
  rcases h with rfl | ⟨b, rfl, hb⟩
  · exact ⟨gm, rfl, h1⟩
  · exact ⟨b, rfl, by omega⟩
theorem Cl.set {g x c : Nat} {row : Option Nat} {s : CS} {H : List Int} {w : World} {cs : Array Value} {u : Value} (h : Cl g row s H w) (hb : w.heap[x]? = some (.cells cs 26 (0, 0))) (hx : x ≠ g) : Cl g row s H (w.setCell ⟨x, c, none⟩ u) := by
  obtain ⟨vb, vw, h1, h2, h3, h4⟩ := h
  refine ⟨vb, vw, setc_far h1 (fun e => hx e.symm), R_set h2 hb str_msg, R_set h3 hb str_msg, ?_⟩
  cases row with
  | none => exact h4
  | some gm =>
    obtain ⟨es, clock, hm⟩ := set_obj h4
    refine HM.blk h4 (Below.heap_setCell w ⟨x, c, none⟩ u gm (fun e => ?_))
    have e' : gm = x := e
    rw [e', hb] at hm
    cases hm
theorem msg_info : (Try.prog.info? 26).map (fun i => (i.zero, i.size, i.bytes)) = some (some (.agg #[.int .i64 0, .int .i64 0, .int .i64 0, .int .i64 0, .string (⟨#[]⟩ : ByteArray), .int .i64 0, .int .i64 0, .string (⟨#[]⟩ : ByteArray), .slice none 0 0]), 9, 104) := by kernel_rfl
set_option maxHeartbeats 40000000 in
set_option maxRecDepth 100000 in
theorem resend_idle (g : Nat) (row : Option Nat) (s : CS) (H : List Int) (w : World) (hc : Cl g row s H w) (hp : s.ph = 0) : Calls Try.prog 14 #[.pointer (some ⟨g, 0, none⟩)] w (Ret (.slice none 0 0) w) := by
  obtain ⟨vb, vw, h1, _⟩ := hc
  have y3 := (blk_cell h1 3).trans (cc3 _ _ _ _)
  rw [hp] at y3
  clear h1 hp
  go_enter Try.func14, Try.ntmps14
  go_wp2
  go_ret
  exact ⟨rfl, Below.refl _ _⟩
def client_Resend.T8 : Bool × List (List Nat × List Nat) := (true, [([], []), ([0], [0]), ([1], [1]), ([2], [2]), ([], []), ([], []), ([5], [5]), ([6], [6]), ([7], [7]), ([], []), ([9], [9]), ([10], [10]), ([11], [11]), ([12], [12]), ([3, 4, 8, 13], [3, 4, 8, 13]), ([], []), ([15, 14, 0, 1, 2, 3, 4, 5, 6, 7, 8, 9, 10, 11, 12, 13, 14, 15], [14, 15])])
def client_Resend.B8 : List Nat := [0, 1, 3, 7, 0, 0, 32, 96, 224, 0, 512, 1536, 3584, 7680, 16383, 0, 65535]
theorem client_Resend.tab8 : rtab .any (opsOf Try.f14 8) = client_Resend.T8 := by kernel_rfl
theorem client_Resend.bits8 : waitsOk client_Resend.T8.2 client_Resend.B8 = true := by kernel_rfl
def client_Resend.T10 : Bool × List (List Nat × List Nat) := (true, [([], []), ([0], [0]), ([1], [1]), ([2], [2]), ([3], [3]), ([], []), ([5], [5]), ([6], [6]), ([7], [7]), ([8], [8]), ([], []), ([10], [10]), ([11], [11]), ([12], [12]), ([13], [13]), ([14], [14]), ([], []), ([16, 15], [16]), ([0, 1, 2, 3, 4, 16, 17], []), ([18, 4, 17, 0, 1, 2, 3, 4, 16, 17], [4, 18]), ([0, 1, 2, 3, 4, 5, 6, 7, 8, 9, 16, 17, 18, 19], []), ([20, 9, 19, 0, 1, 2, 3, 4, 5, 6, 7, 8, 9, 16, 17, 18, 19], [9, 20]), ([0, 1, 2, 3, 4, 5, 6, 7, 8, 9, 10, 11, 12, 13, 14, 15, 16, 17, 18, 19, 20, 21], []), ([22, 15, 21, 0, 1, 2, 3, 4, 5, 6, 7, 8, 9, 10, 11, 12, 13, 14, 15, 16, 17, 18, 19, 20, 21], [15, 22])])
def client_Resend.B10 : List Nat := [0, 1, 3, 7, 15, 0, 32, 96, 224, 480, 0, 1024, 3072, 7168, 15360, 31744, 0, 130048, 261151, 523295, 1048575, 2097151, 4194303, 8388607]
theorem client_Resend.tab10 : rtab .any (opsOf Try.f14 10) = client_Resend.T10 := by kernel_rfl
theorem client_Resend.bits10 : waitsOk client_Resend.T10.2 client_Resend.B10 = true := by kernel_rfl
set_option maxHeartbeats 40000000 in
set_option maxRecDepth 100000 in
theorem resend_calls (g gm : Nat) (s : CS) (H : List Int) (w : World) (hc : Cl g (some gm) s H w) (hp : s.ph = 1 ∨ s.ph = 2) (hn : 0 ≤ s.n ∧ s.n ≤ 15) (hl : s.work.f7.length ≤ 1000000) : Calls Try.prog 14 #[.pointer (some ⟨g, 0, none⟩)] w (RetL (rsUp s H s.n.toNat) w) := by
  obtain ⟨vb, vw, h1, h2, h3, h4⟩ := hc
  have H1 := Aside0.mk h1
  have H3 := Aside0.mk h3
  have H4 := Aside0.mk h4
  have HL := Aside0.mk hl
  have HP := Aside0.mk hp
  have HS := Aside0.mk (Sv.new w)
  obtain ⟨N, hN⟩ : ∃ N : Nat, s.n = (N : Int) := ⟨s.n.toNat, by omega⟩
  have HN := Aside0.mk hN
  have HB15 := Aside0.mk (show N ≤ 15 by omega)
  have y3 := (blk_cell h1 3).trans (cc3 _ _ _ _)
  have y1 : w.cell? ⟨g, 1, none⟩ = some (.int .i64 s.n) := (blk_cell h1 1).trans rfl
  rw [hN] at y1
  have q0 : (s.ph == 0) = false := beq_eq_false_iff_ne.mpr (by omega)
  have eN : s.n.toNat = N := by omega
  rw [eN]
  clear h1 h2 h3 h4 hl hp hn hN eN
  go_enter Try.func14, Try.ntmps14
  go_wp2
  clear y1 y3 q0
  go_loopw [3, 19] (fun v3 v19 w' => ∃ i : Nat, v19 = .int .i64 (i : Int) ∧ i ≤ N ∧ Aside0 (Sv w [] w') ∧ Aside0 (Kd.R k26 26 w' w.heap.size (fun _ => True) v3 (rsUp s H i))) (fun _ v19 _ => N - (intOf v19).toNat)
  case atStart => exact ⟨0, rfl, Nat.zero_le _, HS, ⟨Kd.R_nil _ _ _ _ _⟩⟩
  case round =>
    clear HS
    obtain ⟨i, rfl, hi, HS, HO⟩ := hrel
    by_cases hlt : i < N
    · have HLT := Aside0.mk hlt
      have q0 : decide ((i : Int) < (N : Int)) = true := decide_eq_true (by omega)
      have q1 : decide (i < N) = true := decide_eq_true hlt
      have HW := Aside0.mk (show wrap64 ((i : Int) + 1) = ((i + 1 : Nat) : Int) by have := HB15.out; unfold wrap64; omega)
      have HC := Aside0.mk (blk_below H1.out HS.out.below)
      have y5 := (blk_cell HC.out 5).trans (show (CC s (.map (some gm)) vb vw)[5]? = some (.map (some gm)) from rfl)
      have HX := Aside0.mk (show -9223372036854775808 ≤ (i : Int) ∧ (i : Int) ≤ 9223372036854775807 by have := HB15.out; omega)
      clear hlt hi
      by_cases hin : (i : Int) ∈ H
      · have lk := ck_look (HM.below H4.out HS.out.below) (i : Int) HX.out true (decide_eq_true hin)
        have HI := Aside0.mk hin
        clear hin
        go_wp2
        go_roundw
        case rel => exact ⟨i + 1, by first | rfl | (rw [HW.out]) | go_num, HLT.out, HS, ⟨by rw [rsUp_in s H i HI.out]; exact HO.out⟩⟩
        case measure => exact mea_px HLT.out HW.out
      have lk := ck_look (HM.below H4.out HS.out.below) (i : Int) HX.out false (decide_eq_false hin)
      have HI := Aside0.mk hin
      clear hin
      go_wp2
      clear lk y5 q0 q1
      have n_HS := Aside0.mk (HS.out.drew)
      have n_HO := Aside0.mk (Kd.R_drew HO.out)
      have n_HC := Aside0.mk (blk_drew HC.out)
      clear HS HO HC
      have HS := n_HS
      have HO := n_HO
      have HC := n_HC
      clear n_HS n_HO n_HC
      refine start_ (n := 17) (S := fun w' => w'.cell? ⟨g, 0, none⟩ = some (.int .i64 s.id) ∧ w'.cell? ⟨g, 2, none⟩ = some (.int .i64 s.op) ∧ w'.cell? ⟨g, 19, none⟩ = some (.string s.work.f4)) (ds := []) #[false, false, false, false, false, false, false, false, false, false, false, false, false, false, false, false, false] (by kernel_rfl) rfl rfl ⟨(blk_cell HC.out 0).trans rfl, (blk_cell HC.out 2).trans rfl, (blk_cell HC.out 19).trans rfl⟩ (fun hHeld => ?_)
      refine with_tabW client_Resend.tab8 client_Resend.bits8 (fun HT_ HW_ => ?_)
      generalize World.drew _ = w3 at HS HO HC hHeld ⊢
      refine pure_ (i := 0) (N := some 28) (v := ?_) (a' := ?_) #[true, false, false, false, false, false, false, false, false, false, false, false, false, false, false, false, false] rfl rfl (any_of HT_.out (by kernel_rfl)) (fun _ _ _ h => h) (Or.inl ⟨by rfl, ?_⟩) ?_ ?_
      rotate_left
      · intro w'
        go_simp
        with_reducible rfl
      rotate_left
      · simp only [Act.put, List.setIfInBounds_toArray, List.set_cons_zero, List.set_cons_succ, i64_w, i32_w]
        rfl
      refine pure_ (i := 1) (N := some 29) (v := ?_) (a' := ?_) #[true, true, false, false, false, false, false, false, false, false, false, false, false, false, false, false, false] rfl rfl (any_of HT_.out (by kernel_rfl)) (fun _ _ _ h => h) (Or.inl ⟨by rfl, ?_⟩) ?_ ?_
      rotate_left
      · intro w'
        go_simp
        with_reducible rfl
      rotate_left
      · simp only [Act.put, List.setIfInBounds_toArray, List.set_cons_zero, List.set_cons_succ, i64_w, i32_w]
        rfl
      refine pure_ (i := 2) (N := some 30) (v := ?_) (a' := ?_) #[true, true, true, false, false, false, false, false, false, false, false, false, false, false, false, false, false] rfl rfl (any_of HT_.out (by kernel_rfl)) (fun _ _ _ h => h) (Or.inl ⟨by rfl, ?_⟩) ?_ ?_
      rotate_left
      · intro w'
        go_simp
        with_reducible rfl
      rotate_left
      · simp only [Act.put, List.setIfInBounds_toArray, List.set_cons_zero, List.set_cons_succ, i64_w, i32_w]
        rfl
      refine pure_ (i := 4) (N := some 32) (v := ?_) (a' := ?_) #[true, true, true, false, true, false, false, false, false, false, false, false, false, false, false, false, false] rfl rfl (any_of HT_.out (by kernel_rfl)) (fun _ _ _ h => h) (Or.inl ⟨by rfl, ?_⟩) ?_ ?_
      rotate_left
      · intro w'
        go_simp
        with_reducible rfl
      rotate_left
      · simp only [Act.put, List.setIfInBounds_toArray, List.set_cons_zero, List.set_cons_succ, i64_w, i32_w]
        rfl
      refine pure_ (i := 5) (N := some 33) (v := ?_) (a' := ?_) #[true, true, true, false, true, true, false, false, false, false, false, false, false, false, false, false, false] rfl rfl (any_of HT_.out (by kernel_rfl)) (fun _ _ _ h => h) (Or.inl ⟨by rfl, ?_⟩) ?_ ?_
      rotate_left
      · intro w'
        go_simp
        with_reducible rfl
      rotate_left
      · simp only [Act.put, List.setIfInBounds_toArray, List.set_cons_zero, List.set_cons_succ, i64_w, i32_w]
        rfl
      refine pure_ (i := 6) (N := some 34) (v := ?_) (a' := ?_) #[true, true, true, false, true, true, true, false, false, false, false, false, false, false, false, false, false] rfl rfl (any_of HT_.out (by kernel_rfl)) (fun _ _ _ h => h) (Or.inl ⟨by rfl, ?_⟩) ?_ ?_
      rotate_left
      · intro w'
        go_simp
        with_reducible rfl
      rotate_left
      · simp only [Act.put, List.setIfInBounds_toArray, List.set_cons_zero, List.set_cons_succ, i64_w, i32_w]
        rfl
      refine pure_ (i := 7) (N := some 35) (v := ?_) (a' := ?_) #[true, true, true, false, true, true, true, true, false, false, false, false, false, false, false, false, false] rfl rfl (any_of HT_.out (by kernel_rfl)) (fun _ _ _ h => h) (Or.inl ⟨by rfl, ?_⟩) ?_ ?_
      rotate_left
      · intro w'
        go_simp
        with_reducible rfl
      rotate_left
      · simp only [Act.put, List.setIfInBounds_toArray, List.set_cons_zero, List.set_cons_succ, i64_w, i32_w]
        rfl
      refine pure_ (i := 9) (N := some 37) (v := ?_) (a' := ?_) #[true, true, true, false, true, true, true, true, false, true, false, false, false, false, false, false, false] rfl rfl (any_of HT_.out (by kernel_rfl)) (fun _ _ _ h => h) (Or.inl ⟨by rfl, ?_⟩) ?_ ?_
      rotate_left
      · intro w'
        go_simp
        with_reducible rfl
      rotate_left
      · simp only [Act.put, List.setIfInBounds_toArray, List.set_cons_zero, List.set_cons_succ, i64_w, i32_w]
        rfl
      refine pure_ (i := 10) (N := some 38) (v := ?_) (a' := ?_) #[true, true, true, false, true, true, true, true, false, true, true, false, false, false, false, false, false] rfl rfl (any_of HT_.out (by kernel_rfl)) (fun _ _ _ h => h) (Or.inl ⟨by rfl, ?_⟩) ?_ ?_
      rotate_left
      · intro w'
        go_simp
        with_reducible rfl
      rotate_left
      · simp only [Act.put, List.setIfInBounds_toArray, List.set_cons_zero, List.set_cons_succ, i64_w, i32_w]
        rfl
      refine pure_ (i := 11) (N := some 39) (v := ?_) (a' := ?_) #[true, true, true, false, true, true, true, true, false, true, true, true, false, false, false, false, false] rfl rfl (any_of HT_.out (by kernel_rfl)) (fun _ _ _ h => h) (Or.inl ⟨by rfl, ?_⟩) ?_ ?_
      rotate_left
      · intro w'
        go_simp
        with_reducible rfl
      rotate_left
      · simp only [Act.put, List.setIfInBounds_toArray, List.set_cons_zero, List.set_cons_succ, i64_w, i32_w]
        rfl
      refine pure_ (i := 12) (N := some 40) (v := ?_) (a' := ?_) #[true, true, true, false, true, true, true, true, false, true, true, true, true, false, false, false, false] rfl rfl (any_of HT_.out (by kernel_rfl)) (fun _ _ _ h => h) (Or.inl ⟨by rfl, ?_⟩) ?_ ?_
      rotate_left
      · intro w'
        go_simp
        with_reducible rfl
      rotate_left
      · simp only [Act.put, List.setIfInBounds_toArray, List.set_cons_zero, List.set_cons_succ, i64_w, i32_w]
        rfl
      refine take_ (i := 3) (N := some 31) (v := ?_) (a' := ?_) #[true, true, true, true, true, true, true, true, false, true, true, true, true, false, false, false, false] rfl rfl (take_ofW HT_.out HW_.out (by kernel_rfl)) (fun _ _ _ h => h) (Or.inl ⟨by rfl, ?_⟩) hHeld ?_ ?_
      rotate_left
      · rintro w' ⟨s0_, s2_, s19_⟩
        go_simp
        with_reducible rfl
      rotate_left
      · simp only [Act.put, List.setIfInBounds_toArray, List.set_cons_zero, List.set_cons_succ, i64_w, i32_w]
        rfl
      refine take_ (i := 8) (N := some 36) (v := ?_) (a' := ?_) #[true, true, true, true, true, true, true, true, true, true, true, true, true, false, false, false, false] rfl rfl (take_ofW HT_.out HW_.out (by kernel_rfl)) (fun _ _ _ h => h) (Or.inl ⟨by rfl, ?_⟩) hHeld ?_ ?_
      rotate_left
      · rintro w' ⟨s0_, s2_, s19_⟩
        go_simp
        with_reducible rfl
      rotate_left
      · simp only [Act.put, List.setIfInBounds_toArray, List.set_cons_zero, List.set_cons_succ, i64_w, i32_w]
        rfl
      refine take_ (i := 13) (N := some 41) (v := ?_) (a' := ?_) #[true, true, true, true, true, true, true, true, true, true, true, true, true, true, false, false, false] rfl rfl (take_ofW HT_.out HW_.out (by kernel_rfl)) (fun _ _ _ h => h) (Or.inl ⟨by rfl, ?_⟩) hHeld ?_ ?_
      rotate_left
      · rintro w' ⟨s0_, s2_, s19_⟩
        go_simp
        with_reducible rfl
      rotate_left
      · simp only [Act.put, List.setIfInBounds_toArray, List.set_cons_zero, List.set_cons_succ, i64_w, i32_w]
        rfl
      refine pure_ (i := 14) (N := some 42) (v := ?_) (a' := ?_) #[true, true, true, true, true, true, true, true, true, true, true, true, true, true, true, false, false] rfl rfl (any_of HT_.out (by kernel_rfl)) (fun _ _ _ h => h) (Or.inl ⟨by rfl, ?_⟩) ?_ ?_
      rotate_left
      · intro w'
        go_simp
        with_reducible rfl
      rotate_left
      · simp only [Act.put, List.setIfInBounds_toArray, List.set_cons_zero, List.set_cons_succ, i64_w, i32_w]
        rfl
      refine one_ (i := 15) (N := some 5) #[true, true, true, true, true, true, true, true, true, true, true, true, true, true, true, true, false] rfl rfl (one_of HT_.out (by kernel_rfl)) (by decide) (fun K hK => ?_)
      refine box_step (by rfl) (N := 5) rfl (cs := #[.int .i64 0, .int .i64 0, .int .i64 0, .int .i64 0, .string (⟨#[]⟩ : ByteArray), .int .i64 0, .int .i64 0, .string (⟨#[]⟩ : ByteArray), .slice none 0 0]) (t := 26) (by first | (go_simp; done) | (go_simp; rfl)) ?_
      intro gb hg w4 hbox hb
      have n_HO := Aside0.mk (R_new HO.out hb hg)
      have n_HS := Aside0.mk (HS.out.box hb hg hbox)
      have n_HC := Aside0.mk (blk_below HC.out hb)
      clear HO HS HC hg hb hbox
      have HO := n_HO
      have HS := n_HS
      have HC := n_HC
      clear n_HO n_HS n_HC
      refine hK.out _ _ ⟨(blk_cell HC.out 0).trans rfl, (blk_cell HC.out 2).trans rfl, (blk_cell HC.out 19).trans rfl⟩ (fun hHeld => ?_)
      clear hK K
      refine norm_ (a' := ?_) ?_ ?_
      rotate_left
      · show Act.put _ (some 5) _ = _
        simp only [Act.put, List.setIfInBounds_toArray, List.set_cons_zero, List.set_cons_succ, i64_w, i32_w]
        rfl
      refine one_ (i := 16) (N := none) #[true, true, true, true, true, true, true, true, true, true, true, true, true, true, true, true, true] rfl rfl (one_of HT_.out (by kernel_rfl)) (by decide) (fun K hK => ?_)
      have c0 := (HS.out.cell 0 rfl 0).trans (show (#[.int .i64 0, .int .i64 0, .int .i64 0, .int .i64 0, .string (⟨#[]⟩ : ByteArray), .int .i64 0, .int .i64 0, .string (⟨#[]⟩ : ByteArray), .slice none 0 0] : Array Value)[0]? = some (.int .i64 0) from rfl); have f0 := HS.out.fz 0 rfl 0
      have c1 := (HS.out.cell 0 rfl 1).trans (show (#[.int .i64 0, .int .i64 0, .int .i64 0, .int .i64 0, .string (⟨#[]⟩ : ByteArray), .int .i64 0, .int .i64 0, .string (⟨#[]⟩ : ByteArray), .slice none 0 0] : Array Value)[1]? = some (.int .i64 0) from rfl); have f1 := HS.out.fz 0 rfl 1
      have c2 := (HS.out.cell 0 rfl 2).trans (show (#[.int .i64 0, .int .i64 0, .int .i64 0, .int .i64 0, .string (⟨#[]⟩ : ByteArray), .int .i64 0, .int .i64 0, .string (⟨#[]⟩ : ByteArray), .slice none 0 0] : Array Value)[2]? = some (.int .i64 0) from rfl); have f2 := HS.out.fz 0 rfl 2
      have c3 := (HS.out.cell 0 rfl 3).trans (show (#[.int .i64 0, .int .i64 0, .int .i64 0, .int .i64 0, .string (⟨#[]⟩ : ByteArray), .int .i64 0, .int .i64 0, .string (⟨#[]⟩ : ByteArray), .slice none 0 0] : Array Value)[3]? = some (.int .i64 0) from rfl); have f3 := HS.out.fz 0 rfl 3
      have c4 := (HS.out.cell 0 rfl 4).trans (show (#[.int .i64 0, .int .i64 0, .int .i64 0, .int .i64 0, .string (⟨#[]⟩ : ByteArray), .int .i64 0, .int .i64 0, .string (⟨#[]⟩ : ByteArray), .slice none 0 0] : Array Value)[4]? = some (.string (⟨#[]⟩ : ByteArray)) from rfl); have f4 := HS.out.fz 0 rfl 4
      have c5 := (HS.out.cell 0 rfl 5).trans (show (#[.int .i64 0, .int .i64 0, .int .i64 0, .int .i64 0, .string (⟨#[]⟩ : ByteArray), .int .i64 0, .int .i64 0, .string (⟨#[]⟩ : ByteArray), .slice none 0 0] : Array Value)[5]? = some (.int .i64 0) from rfl); have f5 := HS.out.fz 0 rfl 5
      have c6 := (HS.out.cell 0 rfl 6).trans (show (#[.int .i64 0, .int .i64 0, .int .i64 0, .int .i64 0, .string (⟨#[]⟩ : ByteArray), .int .i64 0, .int .i64 0, .string (⟨#[]⟩ : ByteArray), .slice none 0 0] : Array Value)[6]? = some (.int .i64 0) from rfl); have f6 := HS.out.fz 0 rfl 6
      have c7 := (HS.out.cell 0 rfl 7).trans (show (#[.int .i64 0, .int .i64 0, .int .i64 0, .int .i64 0, .string (⟨#[]⟩ : ByteArray), .int .i64 0, .int .i64 0, .string (⟨#[]⟩ : ByteArray), .slice none 0 0] : Array Value)[7]? = some (.string (⟨#[]⟩ : ByteArray)) from rfl); have f7 := HS.out.fz 0 rfl 7
      have c8 := (HS.out.cell 0 rfl 8).trans (show (#[.int .i64 0, .int .i64 0, .int .i64 0, .int .i64 0, .string (⟨#[]⟩ : ByteArray), .int .i64 0, .int .i64 0, .string (⟨#[]⟩ : ByteArray), .slice none 0 0] : Array Value)[8]? = some (.slice none 0 0) from rfl); have f8 := HS.out.fz 0 rfl 8
      refine skip_ (w1 := ?_) (by rfl) rfl ?_ ?_
      rotate_left
      · go_simp
        rfl
      have NE := Aside0.mk (show g ≠ gb from fun e_ => by have h_ := HS.out.ge 0 rfl; have h2_ := blk_lt H1.out; omega)
      have n_HS : Aside0 (Sv w [(gb, (#[.int .i64 1, .int .i64 s.id, .int .i64 (i : Int), .int .i64 s.op, .string s.work.f4, .int .i64 0, .int .i64 0, .string (⟨#[]⟩ : ByteArray), .slice none 0 0] : Array Value), 26)] (World.setCell (World.setCell (World.setCell (World.setCell (World.setCell (World.setCell (World.setCell (World.setCell (World.setCell w4 ⟨gb, 0, none⟩ (.int .i64 1)) ⟨gb, 1, none⟩ (.int .i64 s.id)) ⟨gb, 2, none⟩ (.int .i64 (i : Int))) ⟨gb, 3, none⟩ (.int .i64 s.op)) ⟨gb, 4, none⟩ (.string s.work.f4)) ⟨gb, 5, none⟩ (.int .i64 0)) ⟨gb, 6, none⟩ (.int .i64 0)) ⟨gb, 7, none⟩ (.string (⟨#[]⟩ : ByteArray))) ⟨gb, 8, none⟩ (.slice none 0 0))) := ⟨(Sv.set (Sv.set (Sv.set (Sv.set (Sv.set (Sv.set (Sv.set (Sv.set (Sv.set HS.out 0 rfl 0 (.int .i64 1)) 0 rfl 1 (.int .i64 s.id)) 0 rfl 2 (.int .i64 (i : Int))) 0 rfl 3 (.int .i64 s.op)) 0 rfl 4 (.string s.work.f4)) 0 rfl 5 (.int .i64 0)) 0 rfl 6 (.int .i64 0)) 0 rfl 7 (.string (⟨#[]⟩ : ByteArray))) 0 rfl 8 (.slice none 0 0))⟩
      have n_HO : Aside0 (Kd.R k26 26 (World.setCell (World.setCell (World.setCell (World.setCell (World.setCell (World.setCell (World.setCell (World.setCell (World.setCell w4 ⟨gb, 0, none⟩ (.int .i64 1)) ⟨gb, 1, none⟩ (.int .i64 s.id)) ⟨gb, 2, none⟩ (.int .i64 (i : Int))) ⟨gb, 3, none⟩ (.int .i64 s.op)) ⟨gb, 4, none⟩ (.string s.work.f4)) ⟨gb, 5, none⟩ (.int .i64 0)) ⟨gb, 6, none⟩ (.int .i64 0)) ⟨gb, 7, none⟩ (.string (⟨#[]⟩ : ByteArray))) ⟨gb, 8, none⟩ (.slice none 0 0)) w.heap.size (fun k => k ≠ gb) _ (rsUp s H i)) := ⟨(R_setN (R_setN (R_setN (R_setN (R_setN (R_setN (R_setN (R_setN (R_setN HO.out)))))))))⟩
      have n_HC : Aside0 (((World.setCell (World.setCell (World.setCell (World.setCell (World.setCell (World.setCell (World.setCell (World.setCell (World.setCell w4 ⟨gb, 0, none⟩ (.int .i64 1)) ⟨gb, 1, none⟩ (.int .i64 s.id)) ⟨gb, 2, none⟩ (.int .i64 (i : Int))) ⟨gb, 3, none⟩ (.int .i64 s.op)) ⟨gb, 4, none⟩ (.string s.work.f4)) ⟨gb, 5, none⟩ (.int .i64 0)) ⟨gb, 6, none⟩ (.int .i64 0)) ⟨gb, 7, none⟩ (.string (⟨#[]⟩ : ByteArray))) ⟨gb, 8, none⟩ (.slice none 0 0))).heap[g]? = some (.cells (CC s (.map (some gm)) vb vw) 70 (0, 0))) := ⟨(setc_far (setc_far (setc_far (setc_far (setc_far (setc_far (setc_far (setc_far (setc_far HC.out NE.out) NE.out) NE.out) NE.out) NE.out) NE.out) NE.out) NE.out) NE.out)⟩
      clear HS HO HC c0 f0 c1 f1 c2 f2 c3 f3 c4 f4 c5 f5 c6 f6 c7 f7 c8 f8
      have HS := n_HS
      have HO := n_HO
      have HC := n_HC
      clear n_HS n_HO n_HC
      generalize (World.setCell (World.setCell (World.setCell (World.setCell (World.setCell (World.setCell (World.setCell (World.setCell (World.setCell w4 ⟨gb, 0, none⟩ (.int .i64 1)) ⟨gb, 1, none⟩ (.int .i64 s.id)) ⟨gb, 2, none⟩ (.int .i64 (i : Int))) ⟨gb, 3, none⟩ (.int .i64 s.op)) ⟨gb, 4, none⟩ (.string s.work.f4)) ⟨gb, 5, none⟩ (.int .i64 0)) ⟨gb, 6, none⟩ (.int .i64 0)) ⟨gb, 7, none⟩ (.string (⟨#[]⟩ : ByteArray))) ⟨gb, 8, none⟩ (.slice none 0 0)) = w5 at HS HO HC ⊢
      refine hK.out _ _ ⟨(blk_cell HC.out 0).trans rfl, (blk_cell HC.out 2).trans rfl, (blk_cell HC.out 19).trans rfl⟩ (fun hHeld => ?_)
      clear hK K
      refine done_ (done_of HT_.out (by kernel_rfl)) ?_
      clear HT_ HW_ hHeld
      have y3 := (blk_cell HC.out 3).trans (show (CC s (.map (some gm)) vb vw)[3]? = some (.int .i64 s.ph) from rfl)
      by_cases hph : s.ph = 2
      rotate_left
      · have q2 : (s.ph == 2) = false := beq_eq_false_iff_ne.mpr hph
        have HE := Aside0.mk (show rsMsg s (i : Int) = ⟨1, s.id, (i : Int), s.op, s.work.f4, ⟨0, 0⟩, (⟨#[]⟩ : ByteArray), []⟩ from if_neg hph)
        clear hph
        have c0 := (HS.out.cell 0 rfl 0).trans (show (#[.int .i64 1, .int .i64 s.id, .int .i64 (i : Int), .int .i64 s.op, .string s.work.f4, .int .i64 0, .int .i64 0, .string (⟨#[]⟩ : ByteArray), .slice none 0 0] : Array Value)[0]? = some (.int .i64 1) from rfl)
        have c1 := (HS.out.cell 0 rfl 1).trans (show (#[.int .i64 1, .int .i64 s.id, .int .i64 (i : Int), .int .i64 s.op, .string s.work.f4, .int .i64 0, .int .i64 0, .string (⟨#[]⟩ : ByteArray), .slice none 0 0] : Array Value)[1]? = some (.int .i64 s.id) from rfl)
        have c2 := (HS.out.cell 0 rfl 2).trans (show (#[.int .i64 1, .int .i64 s.id, .int .i64 (i : Int), .int .i64 s.op, .string s.work.f4, .int .i64 0, .int .i64 0, .string (⟨#[]⟩ : ByteArray), .slice none 0 0] : Array Value)[2]? = some (.int .i64 (i : Int)) from rfl)
        have c3 := (HS.out.cell 0 rfl 3).trans (show (#[.int .i64 1, .int .i64 s.id, .int .i64 (i : Int), .int .i64 s.op, .string s.work.f4, .int .i64 0, .int .i64 0, .string (⟨#[]⟩ : ByteArray), .slice none 0 0] : Array Value)[3]? = some (.int .i64 s.op) from rfl)
        have c4 := (HS.out.cell 0 rfl 4).trans (show (#[.int .i64 1, .int .i64 s.id, .int .i64 (i : Int), .int .i64 s.op, .string s.work.f4, .int .i64 0, .int .i64 0, .string (⟨#[]⟩ : ByteArray), .slice none 0 0] : Array Value)[4]? = some (.string s.work.f4) from rfl)
        have c5 := (HS.out.cell 0 rfl 5).trans (show (#[.int .i64 1, .int .i64 s.id, .int .i64 (i : Int), .int .i64 s.op, .string s.work.f4, .int .i64 0, .int .i64 0, .string (⟨#[]⟩ : ByteArray), .slice none 0 0] : Array Value)[5]? = some (.int .i64 0) from rfl)
        have c6 := (HS.out.cell 0 rfl 6).trans (show (#[.int .i64 1, .int .i64 s.id, .int .i64 (i : Int), .int .i64 s.op, .string s.work.f4, .int .i64 0, .int .i64 0, .string (⟨#[]⟩ : ByteArray), .slice none 0 0] : Array Value)[6]? = some (.int .i64 0) from rfl)
        have c7 := (HS.out.cell 0 rfl 7).trans (show (#[.int .i64 1, .int .i64 s.id, .int .i64 (i : Int), .int .i64 s.op, .string s.work.f4, .int .i64 0, .int .i64 0, .string (⟨#[]⟩ : ByteArray), .slice none 0 0] : Array Value)[7]? = some (.string (⟨#[]⟩ : ByteArray)) from rfl)
        have c8 := (HS.out.cell 0 rfl 8).trans (show (#[.int .i64 1, .int .i64 s.id, .int .i64 (i : Int), .int .i64 s.op, .string s.work.f4, .int .i64 0, .int .i64 0, .string (⟨#[]⟩ : ByteArray), .slice none 0 0] : Array Value)[8]? = some (.slice none 0 0) from rfl)
        have PM : Aside0 (Kd.M k26 w5 w.heap.size (fun _ => False) (⟨1, s.id, (i : Int), s.op, s.work.f4, ⟨0, 0⟩, (⟨#[]⟩ : ByteArray), []⟩ : S26) [.int .i64 1, .int .i64 s.id, .int .i64 (i : Int), .int .i64 s.op, .string s.work.f4, .int .i64 0, .int .i64 0, .string (⟨#[]⟩ : ByteArray), .slice none 0 0]) := ⟨k26_mkM _ _ _ (⟨1, s.id, (i : Int), s.op, s.work.f4, ⟨0, 0⟩, (⟨#[]⟩ : ByteArray), []⟩ : S26) (Kd.R_nil _ _ _ _ _)⟩
        go_wp2_with ((with_reducible refine gate_builtin (b := .append) (xs := #[.tmp 68, .tmp 70]) rfl ?_); at_builtin; refine Kd.R_append k26 (w0 := w) w.heap.size rfl (.tmp 68) (.tmp 70) 33 26 (.agg #[.int .i64 0, .int .i64 0, .int .i64 0, .int .i64 0, .string (⟨#[]⟩ : ByteArray), .int .i64 0, .int .i64 0, .string (⟨#[]⟩ : ByteArray), .slice none 0 0]) 104 rfl Try.underlying33 msg_info rfl (by decide) (by omega) u3 (rsUp s H i) (⟨1, s.id, (i : Int), s.op, s.work.f4, ⟨0, 0⟩, (⟨#[]⟩ : ByteArray), []⟩ : S26) [.int .i64 1, .int .i64 s.id, .int .i64 (i : Int), .int .i64 s.op, .string s.work.f4, .int .i64 0, .int .i64 0, .string (⟨#[]⟩ : ByteArray), .slice none 0 0] (fun k => k ≠ gb) (fun _ => False) rfl rfl ?aP ?aK ?aF ?aO ?aB ?aS ?aL ?_; (case aP => exact PM.out); (case aK => exact (fun _ hk => hk.elim)); (case aF => exact (fun k hk e_ => by have h_ := HS.out.lt 0 rfl; omega)); (case aO => exact HO.out); (case aB => exact HS.out.below); (case aS => exact HS.out.below.size); (case aL => have h_ := rsUp_len s H i; have h2_ := HLT.out; have h3_ := HB15.out; omega); intro v71 w9 ho hb hg_ hat; have n_HO := Aside0.mk (R_all ho); have n_HS := Aside0.mk (show Sv w [] w9 from ⟨hb, fun _ h_ => absurd h_ List.not_mem_nil, List.Pairwise.nil⟩); clear HO HS ho hb hg_ hat; have HO := n_HO; have HS := n_HS; clear n_HO n_HS)
        go_roundw
        case rel => exact ⟨i + 1, by first | rfl | (rw [HW.out]) | go_num, HLT.out, HS, ⟨by rw [rsUp_out s H i HI.out, HE.out]; exact HO.out⟩⟩
        case measure => exact mea_px HLT.out HW.out
      have q2 : (s.ph == 2) = true := beq_iff_eq.mpr hph
      have HE := Aside0.mk (show rsMsg s (i : Int) = ⟨3, s.id, (i : Int), s.op, s.work.f4, s.work.f5, s.work.f6, s.work.f7⟩ from if_pos hph)
      clear hph
      go_upto_region 10 with (fail)
      clear y3 q2
      obtain ⟨Aw, cw, rfl⟩ := Kd.R_slice H3.out
      have n_HS := Aside0.mk (HS.out.drew)
      have n_HO := Aside0.mk (Kd.R_drew HO.out)
      have n_HC := Aside0.mk (blk_drew HC.out)
      clear HS HO HC
      have HS := n_HS
      have HO := n_HO
      have HC := n_HC
      clear n_HS n_HO n_HC
      refine start_ (n := 24) (S := fun w' => w'.cell? ⟨g, 20, none⟩ = some (.int .i64 s.work.f5.f0) ∧ w'.cell? ⟨g, 21, none⟩ = some (.int .i64 s.work.f5.f1) ∧ w'.cell? ⟨g, 22, none⟩ = some (.string s.work.f6) ∧ w'.cell? ⟨g, 23, none⟩ = some (.slice Aw s.work.f7.length cw)) (ds := []) #[false, false, false, false, false, false, false, false, false, false, false, false, false, false, false, false, false, false, false, false, false, false, false, false] (by kernel_rfl) rfl rfl ⟨(blk_cell HC.out 20).trans rfl, (blk_cell HC.out 21).trans rfl, (blk_cell HC.out 22).trans rfl, (blk_cell HC.out 23).trans rfl⟩ (fun hHeld => ?_)
      refine with_tabW client_Resend.tab10 client_Resend.bits10 (fun HT_ HW_ => ?_)
      generalize World.drew _ = w6 at HS HO HC hHeld ⊢
      refine pure_ (i := 0) (N := some 48) (v := ?_) (a' := ?_) #[true, false, false, false, false, false, false, false, false, false, false, false, false, false, false, false, false, false, false, false, false, false, false, false] rfl rfl (any_of HT_.out (by kernel_rfl)) (fun _ _ _ h => h) (Or.inl ⟨by rfl, ?_⟩) ?_ ?_
      rotate_left
      · intro w'
        go_simp
        with_reducible rfl
      rotate_left
      · simp only [Act.put, List.setIfInBounds_toArray, List.set_cons_zero, List.set_cons_succ, i64_w, i32_w]
        rfl
      refine pure_ (i := 1) (N := some 49) (v := ?_) (a' := ?_) #[true, true, false, false, false, false, false, false, false, false, false, false, false, false, false, false, false, false, false, false, false, false, false, false] rfl rfl (any_of HT_.out (by kernel_rfl)) (fun _ _ _ h => h) (Or.inl ⟨by rfl, ?_⟩) ?_ ?_
      rotate_left
      · intro w'
        go_simp
        with_reducible rfl
      rotate_left
      · simp only [Act.put, List.setIfInBounds_toArray, List.set_cons_zero, List.set_cons_succ, i64_w, i32_w]
        rfl
      refine pure_ (i := 2) (N := some 50) (v := ?_) (a' := ?_) #[true, true, true, false, false, false, false, false, false, false, false, false, false, false, false, false, false, false, false, false, false, false, false, false] rfl rfl (any_of HT_.out (by kernel_rfl)) (fun _ _ _ h => h) (Or.inl ⟨by rfl, ?_⟩) ?_ ?_
      rotate_left
      · intro w'
        go_simp
        with_reducible rfl
      rotate_left
      · simp only [Act.put, List.setIfInBounds_toArray, List.set_cons_zero, List.set_cons_succ, i64_w, i32_w]
        rfl
      refine pure_ (i := 3) (N := some 51) (v := ?_) (a' := ?_) #[true, true, true, true, false, false, false, false, false, false, false, false, false, false, false, false, false, false, false, false, false, false, false, false] rfl rfl (any_of HT_.out (by kernel_rfl)) (fun _ _ _ h => h) (Or.inl ⟨by rfl, ?_⟩) ?_ ?_
      rotate_left
      · intro w'
        go_simp
        with_reducible rfl
      rotate_left
      · simp only [Act.put, List.setIfInBounds_toArray, List.set_cons_zero, List.set_cons_succ, i64_w, i32_w]
        rfl
      refine pure_ (i := 5) (N := some 53) (v := ?_) (a' := ?_) #[true, true, true, true, false, true, false, false, false, false, false, false, false, false, false, false, false, false, false, false, false, false, false, false] rfl rfl (any_of HT_.out (by kernel_rfl)) (fun _ _ _ h => h) (Or.inl ⟨by rfl, ?_⟩) ?_ ?_
      rotate_left
      · intro w'
        go_simp
        with_reducible rfl
      rotate_left
      · simp only [Act.put, List.setIfInBounds_toArray, List.set_cons_zero, List.set_cons_succ, i64_w, i32_w]
        rfl
      refine pure_ (i := 6) (N := some 54) (v := ?_) (a' := ?_) #[true, true, true, true, false, true, true, false, false, false, false, false, false, false, false, false, false, false, false, false, false, false, false, false] rfl rfl (any_of HT_.out (by kernel_rfl)) (fun _ _ _ h => h) (Or.inl ⟨by rfl, ?_⟩) ?_ ?_
      rotate_left
      · intro w'
        go_simp
        with_reducible rfl
      rotate_left
      · simp only [Act.put, List.setIfInBounds_toArray, List.set_cons_zero, List.set_cons_succ, i64_w, i32_w]
        rfl
      refine pure_ (i := 7) (N := some 55) (v := ?_) (a' := ?_) #[true, true, true, true, false, true, true, true, false, false, false, false, false, false, false, false, false, false, false, false, false, false, false, false] rfl rfl (any_of HT_.out (by kernel_rfl)) (fun _ _ _ h => h) (Or.inl ⟨by rfl, ?_⟩) ?_ ?_
      rotate_left
      · intro w'
        go_simp
        with_reducible rfl
      rotate_left
      · simp only [Act.put, List.setIfInBounds_toArray, List.set_cons_zero, List.set_cons_succ, i64_w, i32_w]
        rfl
      refine pure_ (i := 8) (N := some 56) (v := ?_) (a' := ?_) #[true, true, true, true, false, true, true, true, true, false, false, false, false, false, false, false, false, false, false, false, false, false, false, false] rfl rfl (any_of HT_.out (by kernel_rfl)) (fun _ _ _ h => h) (Or.inl ⟨by rfl, ?_⟩) ?_ ?_
      rotate_left
      · intro w'
        go_simp
        with_reducible rfl
      rotate_left
      · simp only [Act.put, List.setIfInBounds_toArray, List.set_cons_zero, List.set_cons_succ, i64_w, i32_w]
        rfl
      refine pure_ (i := 10) (N := some 58) (v := ?_) (a' := ?_) #[true, true, true, true, false, true, true, true, true, false, true, false, false, false, false, false, false, false, false, false, false, false, false, false] rfl rfl (any_of HT_.out (by kernel_rfl)) (fun _ _ _ h => h) (Or.inl ⟨by rfl, ?_⟩) ?_ ?_
      rotate_left
      · intro w'
        go_simp
        with_reducible rfl
      rotate_left
      · simp only [Act.put, List.setIfInBounds_toArray, List.set_cons_zero, List.set_cons_succ, i64_w, i32_w]
        rfl
      refine pure_ (i := 11) (N := some 59) (v := ?_) (a' := ?_) #[true, true, true, true, false, true, true, true, true, false, true, true, false, false, false, false, false, false, false, false, false, false, false, false] rfl rfl (any_of HT_.out (by kernel_rfl)) (fun _ _ _ h => h) (Or.inl ⟨by rfl, ?_⟩) ?_ ?_
      rotate_left
      · intro w'
        go_simp
        with_reducible rfl
      rotate_left
      · simp only [Act.put, List.setIfInBounds_toArray, List.set_cons_zero, List.set_cons_succ, i64_w, i32_w]
        rfl
      refine pure_ (i := 12) (N := some 60) (v := ?_) (a' := ?_) #[true, true, true, true, false, true, true, true, true, false, true, true, true, false, false, false, false, false, false, false, false, false, false, false] rfl rfl (any_of HT_.out (by kernel_rfl)) (fun _ _ _ h => h) (Or.inl ⟨by rfl, ?_⟩) ?_ ?_
      rotate_left
      · intro w'
        go_simp
        with_reducible rfl
      rotate_left
      · simp only [Act.put, List.setIfInBounds_toArray, List.set_cons_zero, List.set_cons_succ, i64_w, i32_w]
        rfl
      refine pure_ (i := 13) (N := some 61) (v := ?_) (a' := ?_) #[true, true, true, true, false, true, true, true, true, false, true, true, true, true, false, false, false, false, false, false, false, false, false, false] rfl rfl (any_of HT_.out (by kernel_rfl)) (fun _ _ _ h => h) (Or.inl ⟨by rfl, ?_⟩) ?_ ?_
      rotate_left
      · intro w'
        go_simp
        with_reducible rfl
      rotate_left
      · simp only [Act.put, List.setIfInBounds_toArray, List.set_cons_zero, List.set_cons_succ, i64_w, i32_w]
        rfl
      refine pure_ (i := 16) (N := some 64) (v := ?_) (a' := ?_) #[true, true, true, true, false, true, true, true, true, false, true, true, true, true, false, false, true, false, false, false, false, false, false, false] rfl rfl (any_of HT_.out (by kernel_rfl)) (fun _ _ _ h => h) (Or.inl ⟨by rfl, ?_⟩) ?_ ?_
      rotate_left
      · intro w'
        go_simp
        with_reducible rfl
      rotate_left
      · simp only [Act.put, List.setIfInBounds_toArray, List.set_cons_zero, List.set_cons_succ, i64_w, i32_w]
        rfl
      refine take_ (i := 4) (N := some 52) (v := ?_) (a' := ?_) #[true, true, true, true, true, true, true, true, true, false, true, true, true, true, false, false, true, false, false, false, false, false, false, false] rfl rfl (take_ofW HT_.out HW_.out (by kernel_rfl)) (fun _ _ _ h => h) (Or.inl ⟨by rfl, ?_⟩) hHeld ?_ ?_
      rotate_left
      · rintro w' ⟨s20_, s21_, s22_, s23_⟩
        go_simp
        with_reducible rfl
      rotate_left
      · simp only [Act.put, List.setIfInBounds_toArray, List.set_cons_zero, List.set_cons_succ, i64_w, i32_w]
        rfl
      refine take_ (i := 9) (N := some 57) (v := ?_) (a' := ?_) #[true, true, true, true, true, true, true, true, true, true, true, true, true, true, false, false, true, false, false, false, false, false, false, false] rfl rfl (take_ofW HT_.out HW_.out (by kernel_rfl)) (fun _ _ _ h => h) (Or.inl ⟨by rfl, ?_⟩) hHeld ?_ ?_
      rotate_left
      · rintro w' ⟨s20_, s21_, s22_, s23_⟩
        go_simp
        with_reducible rfl
      rotate_left
      · simp only [Act.put, List.setIfInBounds_toArray, List.set_cons_zero, List.set_cons_succ, i64_w, i32_w]
        rfl
      refine take_ (i := 14) (N := some 62) (v := ?_) (a' := ?_) #[true, true, true, true, true, true, true, true, true, true, true, true, true, true, true, false, true, false, false, false, false, false, false, false] rfl rfl (take_ofW HT_.out HW_.out (by kernel_rfl)) (fun _ _ _ h => h) (Or.inl ⟨by rfl, ?_⟩) hHeld ?_ ?_
      rotate_left
      · rintro w' ⟨s20_, s21_, s22_, s23_⟩
        go_simp
        with_reducible rfl
      rotate_left
      · simp only [Act.put, List.setIfInBounds_toArray, List.set_cons_zero, List.set_cons_succ, i64_w, i32_w]
        rfl
      refine one_ (i := 15) (N := some 63) #[true, true, true, true, true, true, true, true, true, true, true, true, true, true, true, true, true, false, false, false, false, false, false, false] rfl rfl (one_of HT_.out (by kernel_rfl)) (by decide) (fun K hK => ?_)
      have HRw := Aside0.mk (Kd.R_below H3.out HS.out.below)
      refine goes_ Try.func35 (by kernel_rfl) rfl #[.slice Aw s.work.f7.length cw] (by rfl) rfl rfl (by (try simp only [List.map_toArray, List.map_cons, List.map_nil]); first | done | rfl) ?_
      with_reducible refine (clone_calls Aw cw s.work.f7 _ (Kd.R_reads' HRw.out).2.2 (Kd.R_reads' HRw.out).2.1 HL.out).mono ?_
      rintro e w7 ⟨v63, rfl, hr_, hb⟩
      refine ⟨_, rfl, ?_⟩
      obtain ⟨Av, cv, rfl⟩ := Kd.R_slice hr_
      have HV := Aside0.mk (Kd.R_lower hr_ HS.out.below.size)
      clear hr_ HRw
      have n_HO := Aside0.mk (Kd.R_below HO.out hb)
      have n_HS := Aside0.mk (HS.out.step hb)
      have n_HC := Aside0.mk (blk_below HC.out hb)
      clear HO HS HC hb
      have HO := n_HO
      have HS := n_HS
      have HC := n_HC
      clear n_HO n_HS n_HC
      refine hK.out _ _ ⟨(blk_cell HC.out 20).trans rfl, (blk_cell HC.out 21).trans rfl, (blk_cell HC.out 22).trans rfl, (blk_cell HC.out 23).trans rfl⟩ (fun hHeld => ?_)
      clear hK K
      refine norm_ (a' := ?_) ?_ ?_
      rotate_left
      · show Act.put _ (some 63) _ = _
        simp only [Act.put, List.setIfInBounds_toArray, List.set_cons_zero, List.set_cons_succ, i64_w, i32_w]
        rfl
      refine one_ (i := 17) (N := none) #[true, true, true, true, true, true, true, true, true, true, true, true, true, true, true, true, true, true, false, false, false, false, false, false] rfl rfl (one_of HT_.out (by kernel_rfl)) (by decide) (fun K hK => ?_)
      have c0 := (HS.out.cell 0 rfl 0).trans (show (#[.int .i64 1, .int .i64 s.id, .int .i64 (i : Int), .int .i64 s.op, .string s.work.f4, .int .i64 0, .int .i64 0, .string (⟨#[]⟩ : ByteArray), .slice none 0 0] : Array Value)[0]? = some (.int .i64 1) from rfl); have f0 := HS.out.fz 0 rfl 0
      have c1 := (HS.out.cell 0 rfl 1).trans (show (#[.int .i64 1, .int .i64 s.id, .int .i64 (i : Int), .int .i64 s.op, .string s.work.f4, .int .i64 0, .int .i64 0, .string (⟨#[]⟩ : ByteArray), .slice none 0 0] : Array Value)[1]? = some (.int .i64 s.id) from rfl); have f1 := HS.out.fz 0 rfl 1
      have c2 := (HS.out.cell 0 rfl 2).trans (show (#[.int .i64 1, .int .i64 s.id, .int .i64 (i : Int), .int .i64 s.op, .string s.work.f4, .int .i64 0, .int .i64 0, .string (⟨#[]⟩ : ByteArray), .slice none 0 0] : Array Value)[2]? = some (.int .i64 (i : Int)) from rfl); have f2 := HS.out.fz 0 rfl 2
      have c3 := (HS.out.cell 0 rfl 3).trans (show (#[.int .i64 1, .int .i64 s.id, .int .i64 (i : Int), .int .i64 s.op, .string s.work.f4, .int .i64 0, .int .i64 0, .string (⟨#[]⟩ : ByteArray), .slice none 0 0] : Array Value)[3]? = some (.int .i64 s.op) from rfl); have f3 := HS.out.fz 0 rfl 3
      have c4 := (HS.out.cell 0 rfl 4).trans (show (#[.int .i64 1, .int .i64 s.id, .int .i64 (i : Int), .int .i64 s.op, .string s.work.f4, .int .i64 0, .int .i64 0, .string (⟨#[]⟩ : ByteArray), .slice none 0 0] : Array Value)[4]? = some (.string s.work.f4) from rfl); have f4 := HS.out.fz 0 rfl 4
      have c5 := (HS.out.cell 0 rfl 5).trans (show (#[.int .i64 1, .int .i64 s.id, .int .i64 (i : Int), .int .i64 s.op, .string s.work.f4, .int .i64 0, .int .i64 0, .string (⟨#[]⟩ : ByteArray), .slice none 0 0] : Array Value)[5]? = some (.int .i64 0) from rfl); have f5 := HS.out.fz 0 rfl 5
      have c6 := (HS.out.cell 0 rfl 6).trans (show (#[.int .i64 1, .int .i64 s.id, .int .i64 (i : Int), .int .i64 s.op, .string s.work.f4, .int .i64 0, .int .i64 0, .string (⟨#[]⟩ : ByteArray), .slice none 0 0] : Array Value)[6]? = some (.int .i64 0) from rfl); have f6 := HS.out.fz 0 rfl 6
      have c7 := (HS.out.cell 0 rfl 7).trans (show (#[.int .i64 1, .int .i64 s.id, .int .i64 (i : Int), .int .i64 s.op, .string s.work.f4, .int .i64 0, .int .i64 0, .string (⟨#[]⟩ : ByteArray), .slice none 0 0] : Array Value)[7]? = some (.string (⟨#[]⟩ : ByteArray)) from rfl); have f7 := HS.out.fz 0 rfl 7
      have c8 := (HS.out.cell 0 rfl 8).trans (show (#[.int .i64 1, .int .i64 s.id, .int .i64 (i : Int), .int .i64 s.op, .string s.work.f4, .int .i64 0, .int .i64 0, .string (⟨#[]⟩ : ByteArray), .slice none 0 0] : Array Value)[8]? = some (.slice none 0 0) from rfl); have f8 := HS.out.fz 0 rfl 8
      refine skip_ (w1 := ?_) (by rfl) rfl ?_ ?_
      rotate_left
      · go_simp
        rfl
      have n_HS : Aside0 (Sv w [(gb, (#[.int .i64 3, .int .i64 s.id, .int .i64 (i : Int), .int .i64 s.op, .string s.work.f4, .int .i64 0, .int .i64 0, .string (⟨#[]⟩ : ByteArray), .slice none 0 0] : Array Value), 26)] (World.setCell w7 ⟨gb, 0, none⟩ (.int .i64 3))) := ⟨(Sv.set HS.out 0 rfl 0 (.int .i64 3))⟩
      have n_HO : Aside0 (Kd.R k26 26 (World.setCell w7 ⟨gb, 0, none⟩ (.int .i64 3)) w.heap.size (fun k => k ≠ gb) _ (rsUp s H i)) := ⟨(R_setN HO.out)⟩
      have n_HC : Aside0 (((World.setCell w7 ⟨gb, 0, none⟩ (.int .i64 3))).heap[g]? = some (.cells (CC s (.map (some gm)) vb (.slice Aw s.work.f7.length cw)) 70 (0, 0))) := ⟨(setc_far HC.out NE.out)⟩
      have n_HV : Aside0 (Kd.string.R 9 (World.setCell w7 ⟨gb, 0, none⟩ (.int .i64 3)) w.heap.size (fun _ => True) (.slice Av s.work.f7.length cv) s.work.f7) := ⟨(R_set HV.out (HS.out.at 0 rfl) (str_msg))⟩
      clear HS HO HC HV c0 f0 c1 f1 c2 f2 c3 f3 c4 f4 c5 f5 c6 f6 c7 f7 c8 f8
      have HS := n_HS
      have HO := n_HO
      have HC := n_HC
      have HV := n_HV
      clear n_HS n_HO n_HC n_HV
      generalize (World.setCell w7 ⟨gb, 0, none⟩ (.int .i64 3)) = ws17 at HS HO HC HV ⊢
      refine hK.out _ _ ⟨(blk_cell HC.out 20).trans rfl, (blk_cell HC.out 21).trans rfl, (blk_cell HC.out 22).trans rfl, (blk_cell HC.out 23).trans rfl⟩ (fun hHeld => ?_)
      clear hK K
      refine pure_ (i := 18) (N := some 65) (v := ?_) (a' := ?_) #[true, true, true, true, true, true, true, true, true, true, true, true, true, true, true, true, true, true, true, false, false, false, false, false] rfl rfl (any_of HT_.out (by kernel_rfl)) (fun _ _ _ h => h) (Or.inl ⟨by rfl, ?_⟩) ?_ ?_
      rotate_left
      · intro w'
        go_simp
        with_reducible rfl
      rotate_left
      · simp only [Act.put, List.setIfInBounds_toArray, List.set_cons_zero, List.set_cons_succ, i64_w, i32_w]
        rfl
      refine one_ (i := 19) (N := none) #[true, true, true, true, true, true, true, true, true, true, true, true, true, true, true, true, true, true, true, true, false, false, false, false] rfl rfl (one_of HT_.out (by kernel_rfl)) (by decide) (fun K hK => ?_)
      have c0 := (HS.out.cell 0 rfl 0).trans (show (#[.int .i64 3, .int .i64 s.id, .int .i64 (i : Int), .int .i64 s.op, .string s.work.f4, .int .i64 0, .int .i64 0, .string (⟨#[]⟩ : ByteArray), .slice none 0 0] : Array Value)[0]? = some (.int .i64 3) from rfl); have f0 := HS.out.fz 0 rfl 0
      have c1 := (HS.out.cell 0 rfl 1).trans (show (#[.int .i64 3, .int .i64 s.id, .int .i64 (i : Int), .int .i64 s.op, .string s.work.f4, .int .i64 0, .int .i64 0, .string (⟨#[]⟩ : ByteArray), .slice none 0 0] : Array Value)[1]? = some (.int .i64 s.id) from rfl); have f1 := HS.out.fz 0 rfl 1
      have c2 := (HS.out.cell 0 rfl 2).trans (show (#[.int .i64 3, .int .i64 s.id, .int .i64 (i : Int), .int .i64 s.op, .string s.work.f4, .int .i64 0, .int .i64 0, .string (⟨#[]⟩ : ByteArray), .slice none 0 0] : Array Value)[2]? = some (.int .i64 (i : Int)) from rfl); have f2 := HS.out.fz 0 rfl 2
      have c3 := (HS.out.cell 0 rfl 3).trans (show (#[.int .i64 3, .int .i64 s.id, .int .i64 (i : Int), .int .i64 s.op, .string s.work.f4, .int .i64 0, .int .i64 0, .string (⟨#[]⟩ : ByteArray), .slice none 0 0] : Array Value)[3]? = some (.int .i64 s.op) from rfl); have f3 := HS.out.fz 0 rfl 3
      have c4 := (HS.out.cell 0 rfl 4).trans (show (#[.int .i64 3, .int .i64 s.id, .int .i64 (i : Int), .int .i64 s.op, .string s.work.f4, .int .i64 0, .int .i64 0, .string (⟨#[]⟩ : ByteArray), .slice none 0 0] : Array Value)[4]? = some (.string s.work.f4) from rfl); have f4 := HS.out.fz 0 rfl 4
      have c5 := (HS.out.cell 0 rfl 5).trans (show (#[.int .i64 3, .int .i64 s.id, .int .i64 (i : Int), .int .i64 s.op, .string s.work.f4, .int .i64 0, .int .i64 0, .string (⟨#[]⟩ : ByteArray), .slice none 0 0] : Array Value)[5]? = some (.int .i64 0) from rfl); have f5 := HS.out.fz 0 rfl 5
      have c6 := (HS.out.cell 0 rfl 6).trans (show (#[.int .i64 3, .int .i64 s.id, .int .i64 (i : Int), .int .i64 s.op, .string s.work.f4, .int .i64 0, .int .i64 0, .string (⟨#[]⟩ : ByteArray), .slice none 0 0] : Array Value)[6]? = some (.int .i64 0) from rfl); have f6 := HS.out.fz 0 rfl 6
      have c7 := (HS.out.cell 0 rfl 7).trans (show (#[.int .i64 3, .int .i64 s.id, .int .i64 (i : Int), .int .i64 s.op, .string s.work.f4, .int .i64 0, .int .i64 0, .string (⟨#[]⟩ : ByteArray), .slice none 0 0] : Array Value)[7]? = some (.string (⟨#[]⟩ : ByteArray)) from rfl); have f7 := HS.out.fz 0 rfl 7
      have c8 := (HS.out.cell 0 rfl 8).trans (show (#[.int .i64 3, .int .i64 s.id, .int .i64 (i : Int), .int .i64 s.op, .string s.work.f4, .int .i64 0, .int .i64 0, .string (⟨#[]⟩ : ByteArray), .slice none 0 0] : Array Value)[8]? = some (.slice none 0 0) from rfl); have f8 := HS.out.fz 0 rfl 8
      refine skip_ (w1 := ?_) (by rfl) rfl ?_ ?_
      rotate_left
      · go_simp
        rfl
      have n_HS : Aside0 (Sv w [(gb, (#[.int .i64 3, .int .i64 s.id, .int .i64 (i : Int), .int .i64 s.op, .string s.work.f4, .int .i64 s.work.f5.f0, .int .i64 s.work.f5.f1, .string (⟨#[]⟩ : ByteArray), .slice none 0 0] : Array Value), 26)] (World.setCell (World.setCell ws17 ⟨gb, 5, none⟩ (.int .i64 s.work.f5.f0)) ⟨gb, 6, none⟩ (.int .i64 s.work.f5.f1))) := ⟨(Sv.set (Sv.set HS.out 0 rfl 5 (.int .i64 s.work.f5.f0)) 0 rfl 6 (.int .i64 s.work.f5.f1))⟩
      have n_HO : Aside0 (Kd.R k26 26 (World.setCell (World.setCell ws17 ⟨gb, 5, none⟩ (.int .i64 s.work.f5.f0)) ⟨gb, 6, none⟩ (.int .i64 s.work.f5.f1)) w.heap.size (fun k => k ≠ gb) _ (rsUp s H i)) := ⟨(R_setN (R_setN HO.out))⟩
      have n_HC : Aside0 (((World.setCell (World.setCell ws17 ⟨gb, 5, none⟩ (.int .i64 s.work.f5.f0)) ⟨gb, 6, none⟩ (.int .i64 s.work.f5.f1))).heap[g]? = some (.cells (CC s (.map (some gm)) vb (.slice Aw s.work.f7.length cw)) 70 (0, 0))) := ⟨(setc_far (setc_far HC.out NE.out) NE.out)⟩
      have n_HV : Aside0 (Kd.string.R 9 (World.setCell (World.setCell ws17 ⟨gb, 5, none⟩ (.int .i64 s.work.f5.f0)) ⟨gb, 6, none⟩ (.int .i64 s.work.f5.f1)) w.heap.size (fun _ => True) (.slice Av s.work.f7.length cv) s.work.f7) := ⟨(R_set (R_set HV.out (HS.out.at 0 rfl) (str_msg)) ((Sv.set HS.out 0 rfl 5 (.int .i64 s.work.f5.f0)).at 0 rfl) (str_msg))⟩
      clear HS HO HC HV c0 f0 c1 f1 c2 f2 c3 f3 c4 f4 c5 f5 c6 f6 c7 f7 c8 f8
      have HS := n_HS
      have HO := n_HO
      have HC := n_HC
      have HV := n_HV
      clear n_HS n_HO n_HC n_HV
      generalize (World.setCell (World.setCell ws17 ⟨gb, 5, none⟩ (.int .i64 s.work.f5.f0)) ⟨gb, 6, none⟩ (.int .i64 s.work.f5.f1)) = ws19 at HS HO HC HV ⊢
      refine hK.out _ _ ⟨(blk_cell HC.out 20).trans rfl, (blk_cell HC.out 21).trans rfl, (blk_cell HC.out 22).trans rfl, (blk_cell HC.out 23).trans rfl⟩ (fun hHeld => ?_)
      clear hK K
      refine pure_ (i := 20) (N := some 66) (v := ?_) (a' := ?_) #[true, true, true, true, true, true, true, true, true, true, true, true, true, true, true, true, true, true, true, true, true, false, false, false] rfl rfl (any_of HT_.out (by kernel_rfl)) (fun _ _ _ h => h) (Or.inl ⟨by rfl, ?_⟩) ?_ ?_
      rotate_left
      · intro w'
        go_simp
        with_reducible rfl
      rotate_left
      · simp only [Act.put, List.setIfInBounds_toArray, List.set_cons_zero, List.set_cons_succ, i64_w, i32_w]
        rfl
      refine one_ (i := 21) (N := none) #[true, true, true, true, true, true, true, true, true, true, true, true, true, true, true, true, true, true, true, true, true, true, false, false] rfl rfl (one_of HT_.out (by kernel_rfl)) (by decide) (fun K hK => ?_)
      have c0 := (HS.out.cell 0 rfl 0).trans (show (#[.int .i64 3, .int .i64 s.id, .int .i64 (i : Int), .int .i64 s.op, .string s.work.f4, .int .i64 s.work.f5.f0, .int .i64 s.work.f5.f1, .string (⟨#[]⟩ : ByteArray), .slice none 0 0] : Array Value)[0]? = some (.int .i64 3) from rfl); have f0 := HS.out.fz 0 rfl 0
      have c1 := (HS.out.cell 0 rfl 1).trans (show (#[.int .i64 3, .int .i64 s.id, .int .i64 (i : Int), .int .i64 s.op, .string s.work.f4, .int .i64 s.work.f5.f0, .int .i64 s.work.f5.f1, .string (⟨#[]⟩ : ByteArray), .slice none 0 0] : Array Value)[1]? = some (.int .i64 s.id) from rfl); have f1 := HS.out.fz 0 rfl 1
      have c2 := (HS.out.cell 0 rfl 2).trans (show (#[.int .i64 3, .int .i64 s.id, .int .i64 (i : Int), .int .i64 s.op, .string s.work.f4, .int .i64 s.work.f5.f0, .int .i64 s.work.f5.f1, .string (⟨#[]⟩ : ByteArray), .slice none 0 0] : Array Value)[2]? = some (.int .i64 (i : Int)) from rfl); have f2 := HS.out.fz 0 rfl 2
      have c3 := (HS.out.cell 0 rfl 3).trans (show (#[.int .i64 3, .int .i64 s.id, .int .i64 (i : Int), .int .i64 s.op, .string s.work.f4, .int .i64 s.work.f5.f0, .int .i64 s.work.f5.f1, .string (⟨#[]⟩ : ByteArray), .slice none 0 0] : Array Value)[3]? = some (.int .i64 s.op) from rfl); have f3 := HS.out.fz 0 rfl 3
      have c4 := (HS.out.cell 0 rfl 4).trans (show (#[.int .i64 3, .int .i64 s.id, .int .i64 (i : Int), .int .i64 s.op, .string s.work.f4, .int .i64 s.work.f5.f0, .int .i64 s.work.f5.f1, .string (⟨#[]⟩ : ByteArray), .slice none 0 0] : Array Value)[4]? = some (.string s.work.f4) from rfl); have f4 := HS.out.fz 0 rfl 4
      have c5 := (HS.out.cell 0 rfl 5).trans (show (#[.int .i64 3, .int .i64 s.id, .int .i64 (i : Int), .int .i64 s.op, .string s.work.f4, .int .i64 s.work.f5.f0, .int .i64 s.work.f5.f1, .string (⟨#[]⟩ : ByteArray), .slice none 0 0] : Array Value)[5]? = some (.int .i64 s.work.f5.f0) from rfl); have f5 := HS.out.fz 0 rfl 5
      have c6 := (HS.out.cell 0 rfl 6).trans (show (#[.int .i64 3, .int .i64 s.id, .int .i64 (i : Int), .int .i64 s.op, .string s.work.f4, .int .i64 s.work.f5.f0, .int .i64 s.work.f5.f1, .string (⟨#[]⟩ : ByteArray), .slice none 0 0] : Array Value)[6]? = some (.int .i64 s.work.f5.f1) from rfl); have f6 := HS.out.fz 0 rfl 6
      have c7 := (HS.out.cell 0 rfl 7).trans (show (#[.int .i64 3, .int .i64 s.id, .int .i64 (i : Int), .int .i64 s.op, .string s.work.f4, .int .i64 s.work.f5.f0, .int .i64 s.work.f5.f1, .string (⟨#[]⟩ : ByteArray), .slice none 0 0] : Array Value)[7]? = some (.string (⟨#[]⟩ : ByteArray)) from rfl); have f7 := HS.out.fz 0 rfl 7
      have c8 := (HS.out.cell 0 rfl 8).trans (show (#[.int .i64 3, .int .i64 s.id, .int .i64 (i : Int), .int .i64 s.op, .string s.work.f4, .int .i64 s.work.f5.f0, .int .i64 s.work.f5.f1, .string (⟨#[]⟩ : ByteArray), .slice none 0 0] : Array Value)[8]? = some (.slice none 0 0) from rfl); have f8 := HS.out.fz 0 rfl 8
      refine skip_ (w1 := ?_) (by rfl) rfl ?_ ?_
      rotate_left
      · go_simp
        rfl
      have n_HS : Aside0 (Sv w [(gb, (#[.int .i64 3, .int .i64 s.id, .int .i64 (i : Int), .int .i64 s.op, .string s.work.f4, .int .i64 s.work.f5.f0, .int .i64 s.work.f5.f1, .string s.work.f6, .slice none 0 0] : Array Value), 26)] (World.setCell ws19 ⟨gb, 7, none⟩ (.string s.work.f6))) := ⟨(Sv.set HS.out 0 rfl 7 (.string s.work.f6))⟩
      have n_HO : Aside0 (Kd.R k26 26 (World.setCell ws19 ⟨gb, 7, none⟩ (.string s.work.f6)) w.heap.size (fun k => k ≠ gb) _ (rsUp s H i)) := ⟨(R_setN HO.out)⟩
      have n_HC : Aside0 (((World.setCell ws19 ⟨gb, 7, none⟩ (.string s.work.f6))).heap[g]? = some (.cells (CC s (.map (some gm)) vb (.slice Aw s.work.f7.length cw)) 70 (0, 0))) := ⟨(setc_far HC.out NE.out)⟩
      have n_HV : Aside0 (Kd.string.R 9 (World.setCell ws19 ⟨gb, 7, none⟩ (.string s.work.f6)) w.heap.size (fun _ => True) (.slice Av s.work.f7.length cv) s.work.f7) := ⟨(R_set HV.out (HS.out.at 0 rfl) (str_msg))⟩
      clear HS HO HC HV c0 f0 c1 f1 c2 f2 c3 f3 c4 f4 c5 f5 c6 f6 c7 f7 c8 f8
      have HS := n_HS
      have HO := n_HO
      have HC := n_HC
      have HV := n_HV
      clear n_HS n_HO n_HC n_HV
      generalize (World.setCell ws19 ⟨gb, 7, none⟩ (.string s.work.f6)) = ws21 at HS HO HC HV ⊢
      refine hK.out _ _ ⟨(blk_cell HC.out 20).trans rfl, (blk_cell HC.out 21).trans rfl, (blk_cell HC.out 22).trans rfl, (blk_cell HC.out 23).trans rfl⟩ (fun hHeld => ?_)
      clear hK K
      refine pure_ (i := 22) (N := some 67) (v := ?_) (a' := ?_) #[true, true, true, true, true, true, true, true, true, true, true, true, true, true, true, true, true, true, true, true, true, true, true, false] rfl rfl (any_of HT_.out (by kernel_rfl)) (fun _ _ _ h => h) (Or.inl ⟨by rfl, ?_⟩) ?_ ?_
      rotate_left
      · intro w'
        go_simp
        with_reducible rfl
      rotate_left
      · simp only [Act.put, List.setIfInBounds_toArray, List.set_cons_zero, List.set_cons_succ, i64_w, i32_w]
        rfl
      refine one_ (i := 23) (N := none) #[true, true, true, true, true, true, true, true, true, true, true, true, true, true, true, true, true, true, true, true, true, true, true, true] rfl rfl (one_of HT_.out (by kernel_rfl)) (by decide) (fun K hK => ?_)
      have c0 := (HS.out.cell 0 rfl 0).trans (show (#[.int .i64 3, .int .i64 s.id, .int .i64 (i : Int), .int .i64 s.op, .string s.work.f4, .int .i64 s.work.f5.f0, .int .i64 s.work.f5.f1, .string s.work.f6, .slice none 0 0] : Array Value)[0]? = some (.int .i64 3) from rfl); have f0 := HS.out.fz 0 rfl 0
      have c1 := (HS.out.cell 0 rfl 1).trans (show (#[.int .i64 3, .int .i64 s.id, .int .i64 (i : Int), .int .i64 s.op, .string s.work.f4, .int .i64 s.work.f5.f0, .int .i64 s.work.f5.f1, .string s.work.f6, .slice none 0 0] : Array Value)[1]? = some (.int .i64 s.id) from rfl); have f1 := HS.out.fz 0 rfl 1
      have c2 := (HS.out.cell 0 rfl 2).trans (show (#[.int .i64 3, .int .i64 s.id, .int .i64 (i : Int), .int .i64 s.op, .string s.work.f4, .int .i64 s.work.f5.f0, .int .i64 s.work.f5.f1, .string s.work.f6, .slice none 0 0] : Array Value)[2]? = some (.int .i64 (i : Int)) from rfl); have f2 := HS.out.fz 0 rfl 2
      have c3 := (HS.out.cell 0 rfl 3).trans (show (#[.int .i64 3, .int .i64 s.id, .int .i64 (i : Int), .int .i64 s.op, .string s.work.f4, .int .i64 s.work.f5.f0, .int .i64 s.work.f5.f1, .string s.work.f6, .slice none 0 0] : Array Value)[3]? = some (.int .i64 s.op) from rfl); have f3 := HS.out.fz 0 rfl 3
      have c4 := (HS.out.cell 0 rfl 4).trans (show (#[.int .i64 3, .int .i64 s.id, .int .i64 (i : Int), .int .i64 s.op, .string s.work.f4, .int .i64 s.work.f5.f0, .int .i64 s.work.f5.f1, .string s.work.f6, .slice none 0 0] : Array Value)[4]? = some (.string s.work.f4) from rfl); have f4 := HS.out.fz 0 rfl 4
      have c5 := (HS.out.cell 0 rfl 5).trans (show (#[.int .i64 3, .int .i64 s.id, .int .i64 (i : Int), .int .i64 s.op, .string s.work.f4, .int .i64 s.work.f5.f0, .int .i64 s.work.f5.f1, .string s.work.f6, .slice none 0 0] : Array Value)[5]? = some (.int .i64 s.work.f5.f0) from rfl); have f5 := HS.out.fz 0 rfl 5
      have c6 := (HS.out.cell 0 rfl 6).trans (show (#[.int .i64 3, .int .i64 s.id, .int .i64 (i : Int), .int .i64 s.op, .string s.work.f4, .int .i64 s.work.f5.f0, .int .i64 s.work.f5.f1, .string s.work.f6, .slice none 0 0] : Array Value)[6]? = some (.int .i64 s.work.f5.f1) from rfl); have f6 := HS.out.fz 0 rfl 6
      have c7 := (HS.out.cell 0 rfl 7).trans (show (#[.int .i64 3, .int .i64 s.id, .int .i64 (i : Int), .int .i64 s.op, .string s.work.f4, .int .i64 s.work.f5.f0, .int .i64 s.work.f5.f1, .string s.work.f6, .slice none 0 0] : Array Value)[7]? = some (.string s.work.f6) from rfl); have f7 := HS.out.fz 0 rfl 7
      have c8 := (HS.out.cell 0 rfl 8).trans (show (#[.int .i64 3, .int .i64 s.id, .int .i64 (i : Int), .int .i64 s.op, .string s.work.f4, .int .i64 s.work.f5.f0, .int .i64 s.work.f5.f1, .string s.work.f6, .slice none 0 0] : Array Value)[8]? = some (.slice none 0 0) from rfl); have f8 := HS.out.fz 0 rfl 8
      refine skip_ (w1 := ?_) (by rfl) rfl ?_ ?_
      rotate_left
      · go_simp
        rfl
      have n_HS : Aside0 (Sv w [(gb, (#[.int .i64 3, .int .i64 s.id, .int .i64 (i : Int), .int .i64 s.op, .string s.work.f4, .int .i64 s.work.f5.f0, .int .i64 s.work.f5.f1, .string s.work.f6, .slice Av s.work.f7.length cv] : Array Value), 26)] (World.setCell ws21 ⟨gb, 8, none⟩ (.slice Av s.work.f7.length cv))) := ⟨(Sv.set HS.out 0 rfl 8 (.slice Av s.work.f7.length cv))⟩
      have n_HO : Aside0 (Kd.R k26 26 (World.setCell ws21 ⟨gb, 8, none⟩ (.slice Av s.work.f7.length cv)) w.heap.size (fun k => k ≠ gb) _ (rsUp s H i)) := ⟨(R_setN HO.out)⟩
      have n_HC : Aside0 (((World.setCell ws21 ⟨gb, 8, none⟩ (.slice Av s.work.f7.length cv))).heap[g]? = some (.cells (CC s (.map (some gm)) vb (.slice Aw s.work.f7.length cw)) 70 (0, 0))) := ⟨(setc_far HC.out NE.out)⟩
      have n_HV : Aside0 (Kd.string.R 9 (World.setCell ws21 ⟨gb, 8, none⟩ (.slice Av s.work.f7.length cv)) w.heap.size (fun _ => True) (.slice Av s.work.f7.length cv) s.work.f7) := ⟨(R_set HV.out (HS.out.at 0 rfl) (str_msg))⟩
      clear HS HO HC HV c0 f0 c1 f1 c2 f2 c3 f3 c4 f4 c5 f5 c6 f6 c7 f7 c8 f8
      have HS := n_HS
      have HO := n_HO
      have HC := n_HC
      have HV := n_HV
      clear n_HS n_HO n_HC n_HV
      generalize (World.setCell ws21 ⟨gb, 8, none⟩ (.slice Av s.work.f7.length cv)) = ws23 at HS HO HC HV ⊢
      refine hK.out _ _ ⟨(blk_cell HC.out 20).trans rfl, (blk_cell HC.out 21).trans rfl, (blk_cell HC.out 22).trans rfl, (blk_cell HC.out 23).trans rfl⟩ (fun hHeld => ?_)
      clear hK K
      refine done_ (done_of HT_.out (by kernel_rfl)) ?_
      clear HT_ HW_ hHeld
      have c0 := (HS.out.cell 0 rfl 0).trans (show (#[.int .i64 3, .int .i64 s.id, .int .i64 (i : Int), .int .i64 s.op, .string s.work.f4, .int .i64 s.work.f5.f0, .int .i64 s.work.f5.f1, .string s.work.f6, .slice Av s.work.f7.length cv] : Array Value)[0]? = some (.int .i64 3) from rfl)
      have c1 := (HS.out.cell 0 rfl 1).trans (show (#[.int .i64 3, .int .i64 s.id, .int .i64 (i : Int), .int .i64 s.op, .string s.work.f4, .int .i64 s.work.f5.f0, .int .i64 s.work.f5.f1, .string s.work.f6, .slice Av s.work.f7.length cv] : Array Value)[1]? = some (.int .i64 s.id) from rfl)
      have c2 := (HS.out.cell 0 rfl 2).trans (show (#[.int .i64 3, .int .i64 s.id, .int .i64 (i : Int), .int .i64 s.op, .string s.work.f4, .int .i64 s.work.f5.f0, .int .i64 s.work.f5.f1, .string s.work.f6, .slice Av s.work.f7.length cv] : Array Value)[2]? = some (.int .i64 (i : Int)) from rfl)
      have c3 := (HS.out.cell 0 rfl 3).trans (show (#[.int .i64 3, .int .i64 s.id, .int .i64 (i : Int), .int .i64 s.op, .string s.work.f4, .int .i64 s.work.f5.f0, .int .i64 s.work.f5.f1, .string s.work.f6, .slice Av s.work.f7.length cv] : Array Value)[3]? = some (.int .i64 s.op) from rfl)
      have c4 := (HS.out.cell 0 rfl 4).trans (show (#[.int .i64 3, .int .i64 s.id, .int .i64 (i : Int), .int .i64 s.op, .string s.work.f4, .int .i64 s.work.f5.f0, .int .i64 s.work.f5.f1, .string s.work.f6, .slice Av s.work.f7.length cv] : Array Value)[4]? = some (.string s.work.f4) from rfl)
      have c5 := (HS.out.cell 0 rfl 5).trans (show (#[.int .i64 3, .int .i64 s.id, .int .i64 (i : Int), .int .i64 s.op, .string s.work.f4, .int .i64 s.work.f5.f0, .int .i64 s.work.f5.f1, .string s.work.f6, .slice Av s.work.f7.length cv] : Array Value)[5]? = some (.int .i64 s.work.f5.f0) from rfl)
      have c6 := (HS.out.cell 0 rfl 6).trans (show (#[.int .i64 3, .int .i64 s.id, .int .i64 (i : Int), .int .i64 s.op, .string s.work.f4, .int .i64 s.work.f5.f0, .int .i64 s.work.f5.f1, .string s.work.f6, .slice Av s.work.f7.length cv] : Array Value)[6]? = some (.int .i64 s.work.f5.f1) from rfl)
      have c7 := (HS.out.cell 0 rfl 7).trans (show (#[.int .i64 3, .int .i64 s.id, .int .i64 (i : Int), .int .i64 s.op, .string s.work.f4, .int .i64 s.work.f5.f0, .int .i64 s.work.f5.f1, .string s.work.f6, .slice Av s.work.f7.length cv] : Array Value)[7]? = some (.string s.work.f6) from rfl)
      have c8 := (HS.out.cell 0 rfl 8).trans (show (#[.int .i64 3, .int .i64 s.id, .int .i64 (i : Int), .int .i64 s.op, .string s.work.f4, .int .i64 s.work.f5.f0, .int .i64 s.work.f5.f1, .string s.work.f6, .slice Av s.work.f7.length cv] : Array Value)[8]? = some (.slice Av s.work.f7.length cv) from rfl)
      have PM : Aside0 (Kd.M k26 ws23 w.heap.size (fun k => some k ≠ u3.ownBlock ∧ k ≠ gb) (⟨3, s.id, (i : Int), s.op, s.work.f4, s.work.f5, s.work.f6, s.work.f7⟩ : S26) [.int .i64 3, .int .i64 s.id, .int .i64 (i : Int), .int .i64 s.op, .string s.work.f4, .int .i64 s.work.f5.f0, .int .i64 s.work.f5.f1, .string s.work.f6, .slice Av s.work.f7.length cv]) := ⟨k26_mkM _ _ _ (⟨3, s.id, (i : Int), s.op, s.work.f4, s.work.f5, s.work.f6, s.work.f7⟩ : S26) (Kd.R_reok rfl HV.out (fun k hk => ⟨ne_types HV.out HO.out (by decide) k hk, fun e_ => by obtain ⟨i_, ho_⟩ := Kd.R_own HV.out; obtain ⟨c_, hc_⟩ := own_typed ho_ k hk; rw [e_, HS.out.at 0 rfl] at hc_; injection hc_ with hc_; injection hc_ with _ hc_ _; exact absurd hc_ (by decide)⟩))⟩
      go_wp2_with ((with_reducible refine gate_builtin (b := .append) (xs := #[.tmp 68, .tmp 70]) rfl ?_); at_builtin; refine Kd.R_append k26 (w0 := w) w.heap.size rfl (.tmp 68) (.tmp 70) 33 26 (.agg #[.int .i64 0, .int .i64 0, .int .i64 0, .int .i64 0, .string (⟨#[]⟩ : ByteArray), .int .i64 0, .int .i64 0, .string (⟨#[]⟩ : ByteArray), .slice none 0 0]) 104 rfl Try.underlying33 msg_info rfl (by decide) (by omega) u3 (rsUp s H i) (⟨3, s.id, (i : Int), s.op, s.work.f4, s.work.f5, s.work.f6, s.work.f7⟩ : S26) [.int .i64 3, .int .i64 s.id, .int .i64 (i : Int), .int .i64 s.op, .string s.work.f4, .int .i64 s.work.f5.f0, .int .i64 s.work.f5.f1, .string s.work.f6, .slice Av s.work.f7.length cv] (fun k => k ≠ gb) (fun k => some k ≠ u3.ownBlock ∧ k ≠ gb) rfl rfl ?aP ?aK ?aF ?aO ?aB ?aS ?aL ?_; (case aP => exact PM.out); (case aK => exact (fun k hk => ⟨hk.2, hk.1⟩)); (case aF => exact (fun k hk e_ => by have h_ := HS.out.lt 0 rfl; omega)); (case aO => exact HO.out); (case aB => exact HS.out.below); (case aS => exact HS.out.below.size); (case aL => have h_ := rsUp_len s H i; have h2_ := HLT.out; have h3_ := HB15.out; omega); intro v71 w9 ho hb hg_ hat; have n_HO := Aside0.mk (R_all ho); have n_HS := Aside0.mk (show Sv w [] w9 from ⟨hb, fun _ h_ => absurd h_ List.not_mem_nil, List.Pairwise.nil⟩); clear HO HS ho hb hg_ hat; have HO := n_HO; have HS := n_HS; clear n_HO n_HS)
      go_roundw
      case rel => exact ⟨i + 1, by first | rfl | (rw [HW.out]) | go_num, HLT.out, HS, ⟨by rw [rsUp_out s H i HI.out, HE.out]; exact HO.out⟩⟩
      case measure => exact mea_px HLT.out HW.out
    · obtain rfl : i = N := by omega
      have q0 : decide ((i : Int) < (i : Int)) = false := decide_eq_false (by omega)
      go_wp2
      go_ret
      exact ⟨_, rfl, HO.out, HS.out.below⟩

end Go.Proofs.Ytdbiokmlgniobaa.PL22
