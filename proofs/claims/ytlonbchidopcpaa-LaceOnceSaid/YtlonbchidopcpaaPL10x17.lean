/- Printed for this claim by a program of this session over the kit's print program: the Go functions as Lean functions, and proofs that the calls come to these answers. No conditions. -/
import Derived.Test.YtlonbchidopcpaaSets
import Derived.LoopTactic
import Derived.Laws.Rows
import Derived.Laws.Tables
import Derived.Laws.CopyOwn
import Derived.WideKeyPair
import Derived.DeepKeys4
import Derived.Test.YtlonbchidopcpaaPL10x0
import Derived.Test.YtlonbchidopcpaaPL10x5
import Derived.Test.YtlonbchidopcpaaPL10x10
import Derived.Test.YtlonbchidopcpaaPL10x11
namespace Go.Proofs.Ytlonbchidopcpaa.PL10
open Go.RowKit Go.Proofs.YtlonbchidopcpaaW.PrintWords Go.Proofs.YtlonbchidopcpaaW.PrintLast Go.Proofs.YtlonbchidopcpaaW.PrintMore
attribute [local go_sem] max2_int min2_int max_two min_two max_three min_three max_four min_four   -- for this text's walks alone
set_option linter.unusedVariables false
set_option linter.unusedSimpArgs false

/-! ### vitrinelaw10_LaceOnce: function 5 -/
/-- A pixel's place in the image, by its place in a pass. -/
def lo_at (p : S34) (y x : Nat) : Int × Int := (p.f0 + (x : Int) * p.f2, p.f1 + (y : Int) * p.f3)
/-- The places that were seen, behind those of S: of x pixels of a row, of y rows of a pass, of i passes. -/
def lo_x (p : S34) (y : Nat) (S : List (Int × Int)) : Nat → List (Int × Int)
  | 0 => S
  | x + 1 => lo_at p y x :: lo_x p y S x
def lo_y (p : S34) (S : List (Int × Int)) : Nat → List (Int × Int)
  | 0 => S
  | y + 1 => lo_x p y (lo_y p S y) p.f4.toNat
def lo_i (l : List S34) : Nat → List (Int × Int)
  | 0 => []
  | i + 1 => lo_y (rd_T34 l (i : Int)) (lo_i l i) (rd_T34 l (i : Int)).f5.toNat
def lo_sfx (S T : List (Int × Int)) : Prop := ∃ pre, T = pre ++ S
theorem lo_sfx.refl (S : List (Int × Int)) : lo_sfx S S := ⟨[], rfl⟩
theorem lo_sfx.trans {S T U : List (Int × Int)} (h : lo_sfx S T) (k : lo_sfx T U) : lo_sfx S U := by
  obtain ⟨a, rfl⟩ := h
  obtain ⟨b, rfl⟩ := k
  exact ⟨b ++ a, by rw [List.append_assoc]⟩
theorem lo_x_sfx (p : S34) (y : Nat) (S : List (Int × Int)) (x : Nat) : ∀ d, lo_sfx (lo_x p y S x) (lo_x p y S (x + d))
  | 0 => lo_sfx.refl _
  | d + 1 => (lo_x_sfx p y S x d).trans ⟨[lo_at p y (x + d)], rfl⟩
theorem lo_x_base (p : S34) (y : Nat) (S : List (Int × Int)) : ∀ x, lo_sfx S (lo_x p y S x)
  | 0 => lo_sfx.refl _
  | x + 1 => (lo_x_base p y S x).trans ⟨[lo_at p y x], rfl⟩
theorem lo_y_sfx (p : S34) (S : List (Int × Int)) (y : Nat) : ∀ d, lo_sfx (lo_y p S y) (lo_y p S (y + d))
  | 0 => lo_sfx.refl _
  | d + 1 => (lo_y_sfx p S y d).trans (lo_x_base p (y + d) _ _)
theorem lo_y_base (p : S34) (S : List (Int × Int)) : ∀ y, lo_sfx S (lo_y p S y)
  | 0 => lo_sfx.refl _
  | y + 1 => (lo_y_base p S y).trans (lo_x_base p y _ _)
theorem lo_i_sfx (l : List S34) (i : Nat) : ∀ d, lo_sfx (lo_i l i) (lo_i l (i + d))
  | 0 => lo_sfx.refl _
  | d + 1 => (lo_i_sfx l i d).trans (lo_y_base _ _ _)
/-- What the law asks of the passes: each within bounds, no place twice, none outside, and as many as there are pixels. -/
structure lo_ok (W H : Int) (l : List S34) : Prop where
  wh : 1 ≤ W ∧ W ≤ 1024 ∧ 1 ≤ H ∧ H ≤ 1024
  len : l.length ≤ 1000
  rg : ∀ i : Nat, i < l.length → 1 ≤ (rd_T34 l (i : Int)).f4 ∧ (rd_T34 l (i : Int)).f4 ≤ 1024 ∧ 1 ≤ (rd_T34 l (i : Int)).f5 ∧ (rd_T34 l (i : Int)).f5 ≤ 1024 ∧ 0 ≤ (rd_T34 l (i : Int)).f0 ∧ (rd_T34 l (i : Int)).f0 ≤ 8 ∧ 0 ≤ (rd_T34 l (i : Int)).f1 ∧ (rd_T34 l (i : Int)).f1 ≤ 8 ∧ 1 ≤ (rd_T34 l (i : Int)).f2 ∧ (rd_T34 l (i : Int)).f2 ≤ 8 ∧ 1 ≤ (rd_T34 l (i : Int)).f3 ∧ (rd_T34 l (i : Int)).f3 ≤ 8 ∧ (rd_T34 l (i : Int)).f4 * (rd_T34 l (i : Int)).f5 ≤ 4096
  nodup : (lo_i l l.length).Nodup
  inn : ∀ q ∈ lo_i l l.length, q.1 < W ∧ q.2 < H
  all : ((lo_i l l.length).length : Int) = W * H
  few : (lo_i l l.length).length ≤ 4096
/-- The place that comes next: it isn't there yet, it is inside. -/
theorem lo_new {W H : Int} {l : List S34} (h : lo_ok W H l) {i y x : Nat} (hi : i < l.length) (hy : y < (rd_T34 l (i : Int)).f5.toNat) (hx : x < (rd_T34 l (i : Int)).f4.toNat) :
    lo_at (rd_T34 l (i : Int)) y x ∉ lo_x (rd_T34 l (i : Int)) y (lo_y (rd_T34 l (i : Int)) (lo_i l i) y) x ∧ (lo_at (rd_T34 l (i : Int)) y x).1 < W ∧ (lo_at (rd_T34 l (i : Int)) y x).2 < H ∧ (lo_x (rd_T34 l (i : Int)) y (lo_y (rd_T34 l (i : Int)) (lo_i l i) y) x).length ≤ 4096 := by
  have h1 : lo_sfx (lo_at (rd_T34 l (i : Int)) y x :: lo_x (rd_T34 l (i : Int)) y (lo_y (rd_T34 l (i : Int)) (lo_i l i) y) x) (lo_i l l.length) := by
    have a1 := lo_x_sfx (rd_T34 l (i : Int)) y (lo_y (rd_T34 l (i : Int)) (lo_i l i) y) (x + 1) ((rd_T34 l (i : Int)).f4.toNat - (x + 1))
    rw [Nat.add_sub_cancel' hx] at a1
    have a2 := lo_y_sfx (rd_T34 l (i : Int)) (lo_i l i) (y + 1) ((rd_T34 l (i : Int)).f5.toNat - (y + 1))
    rw [Nat.add_sub_cancel' hy] at a2
    have a3 := lo_i_sfx l (i + 1) (l.length - (i + 1))
    rw [Nat.add_sub_cancel' hi] at a3
    exact (a1.trans a2).trans a3
  obtain ⟨pre, hp⟩ := h1
  have hn := h.nodup
  rw [hp] at hn
  have hin := h.inn (lo_at (rd_T34 l (i : Int)) y x) (by rw [hp]; exact List.mem_append_right _ List.mem_cons_self)
  have hf := h.few
  rw [hp, List.length_append, List.length_cons] at hf
  exact ⟨(List.nodup_cons.1 (List.nodup_append.1 hn).2.1).1, hin.1, hin.2, by omega⟩
/-- A place as a key of the map. -/
def lo_key (q : Int × Int) : Value := .agg #[.int .i64 q.1, .int .i64 q.2]
theorem lo_key_inj (q r : Int × Int) (h : lo_key q = lo_key r) : q = r := by
  unfold lo_key at h
  simp at h
  exact Prod.ext h.1 h.2
theorem lo_arr : Go.WideMaps.ArrKey Try.prog 35 3 2 := ⟨Try.underlying35, by kernel_rfl, by kernel_rfl, by kernel_rfl⟩
theorem lo_laid : laidOutB Try.prog = true := by kernel_rfl
theorem lo_rowk : (35 : TypeId) < Try.prog.types.size := of_decide_eq_true (by kernel_rfl)
theorem lo_wide : (match Try.prog.underlying 35 with | some (.array _ _) | some (.struct _) => true | _ => false) = true := by kernel_rfl
theorem lo_law : Go.Maps.Keyed Try.prog 35 := Go.Maps.Keyed.of_law (deep_law_laid lo_laid (m := 2) (by omega) lo_rowk (by kernel_rfl) lo_wide)
theorem lo_zero (w : World) : (zeroValue 4).run Try.prog w = .ok (.bool false) w := by kernel_rfl
theorem lo_keyOf (q : Int × Int) (h1 : -9223372036854775808 ≤ q.1 ∧ q.1 ≤ 9223372036854775807) (h2 : -9223372036854775808 ≤ q.2 ∧ q.2 ≤ 9223372036854775807) : ∃ l, keyOf Try.prog 35 (lo_key q) = some l :=
  ⟨_, Go.WideMaps.keyOf_pair lo_arr Try.underlying3 ⟨Try.prog.types.size - 1, by kernel_rfl⟩ (by simpa [Lit.wf, IntKind.min, IntKind.max, IntKind.signed, IntKind.bits] using h1) (by simpa [Lit.wf, IntKind.min, IntKind.max, IntKind.signed, IntKind.bits] using h2)⟩
open Go.Proofs.YtlonbchidopcpaaSets (IsSet)
/-- What stands while the passes are gone through. -/
structure LoS (w : World) (gh gm : Nat) (v : Value) (l : List S34) (W H D C L : Int) (S : List (Int × Int)) (wc : World) : Prop where
  below : Below w.heap.size w wc
  row : Kd.R k34 34 wc w.heap.size (fun k => k ≠ gm) v l
  box : wc.heap[gh]? = some (.cells #[.int .i64 W, .int .i64 H, .int .i64 D, .int .i64 C, .int .i64 L] 23 (0, 0))
  set : IsSet Try.prog 35 4 lo_key wc gm S
  ne : gh ≠ gm
  gm : w.heap.size ≤ gm
theorem LoS.step {w : World} {gh gm : Nat} {v : Value} {l : List S34} {W H D C L : Int} {S : List (Int × Int)} {wc w' : World} (h : LoS w gh gm v l W H D C L S wc) (hb : Below wc.heap.size wc w') : LoS w gh gm v l W H D C L S w' :=
  ⟨h.below.trans (hb.mono h.below.size), Kd.R_below h.row hb, (hb.block gh (Array.getElem?_eq_some_iff.1 h.box).1).trans h.box, h.set.below hb, h.ne, h.gm⟩
theorem LoS.drew {w : World} {gh gm : Nat} {v : Value} {l : List S34} {W H D C L : Int} {S : List (Int × Int)} {wc : World} (h : LoS w gh gm v l W H D C L S wc) : LoS w gh gm v l W H D C L S wc.drew := h.step (Below.drew (Below.refl _ _))
theorem LoS.put {w : World} {gh gm : Nat} {v : Value} {l : List S34} {W H D C L : Int} {S T : List (Int × Int)} {wc w' : World} (h : LoS w gh gm v l W H D C L S wc) (hg : wc.grownBy w' (some gm)) (hs : IsSet Try.prog 35 4 lo_key w' gm T) : LoS w gh gm v l W H D C L T w' :=
  ⟨h.below.grown hg h.below.size (fun k hk => by injection hk with hk; rw [← hk]; exact h.gm), Kd.R_grown h.row hg (fun k hk e => hk (Option.some.inj e)), (hg.block gh (Array.getElem?_eq_some_iff.1 h.box).1 (fun e => h.ne (Option.some.inj e))).trans h.box, hs, h.ne, h.gm⟩
theorem wpList_set_put {w : World} {ops : Array Oper} {rest : List Oper} {o : Oper} {a : Act} {Q : Exit → Act → World → Prop} (hg : o.guard = none) (m x v : Operand) (hop : o.op = Op.mapUpdate 32 m x v)
    (gm : Nat) (S : List (Int × Int)) (q : Int × Int) (hm : a.eval m = .map (some gm)) (hx : a.eval x = lo_key q) (hv : a.eval v = .bool true) (hs : IsSet Try.prog 35 4 lo_key w gm S) (hn : S.length < maxLen) (hk : ∃ l, keyOf Try.prog 35 (lo_key q) = some l) (hnew : q ∉ S)
    (hK : ∀ w', IsSet Try.prog 35 4 lo_key w' gm (q :: S) → w.grownBy w' (some gm) → wpList Try.prog ops Q rest (a.put o.dst undef) w') : wpList Try.prog ops Q (o :: rest) a w := by
  obtain ⟨l, hl⟩ := hk
  refine wpList_plain hg fun K' hK' => ?_
  obtain ⟨w', hrun, r1, r2⟩ := hs.store lo_law lo_key_inj Try.underlying32 Try.underlying4 hn q hl hnew
  unfold Oper.wp
  simp [execOp, hop, hm, hx, hv, hrun, Result.andThen]
  exact hK' _ _ (hK w' r1 r2)
theorem lo_look {w : World} {gh gm : Nat} {v : Value} {l : List S34} {W H D C L : Int} {S : List (Int × Int)} {wc : World} (h : LoS w gh gm v l W H D C L S wc) (qx qy : Int) (hk : ∃ kl, keyOf Try.prog 35 (lo_key (qx, qy)) = some kl) (hnew : (qx, qy) ∉ S) :
    (Instr.lookup 32 (.map (some gm)) (.agg #[.int .i64 qx, .int .i64 qy]) false).run Try.prog wc = .ok (.bool false) wc := by
  obtain ⟨kl, hkl⟩ := hk
  have h_ := h.set.look lo_law Try.underlying32 Try.underlying4 (lo_zero wc) (qx, qy) hkl
  have e_ : ∀ i : Decidable ((qx, qy) ∈ S), @decide _ i = false := fun i => @decide_eq_false _ i hnew
  rw [e_] at h_
  exact h_
set_option maxHeartbeats 40000000 in
set_option maxRecDepth 100000 in
theorem lo_walk (k : Nat) (W H D C L : Int) (l : List S34) (r : Bool) (w : World) (hp : lace_Passes.f k W H D C L = some l) (hne : l ≠ []) (hok : lo_ok W H l) (haw : vitrinelaw10_awake.f k = some r) :
    Calls Try.prog 5 #[.agg #[.int .i64 W, .int .i64 H, .int .i64 D, .int .i64 C, .int .i64 L]] w fun e w' => e = .returned (.bool r) ∧ Below w.heap.size w w' := by
  have HP := Aside0.mk hp
  have OK := Aside0.mk hok
  have AW := Aside0.mk haw
  have NE := Aside0.mk hne
  clear hp hok haw hne
  have hmm := @run_makeMap Try.prog
  go_enter Try.func5, Try.ntmps5
  go_wp2_with (first | ((with_reducible refine gate_dst (N := 1) rfl ?_); refine box_event ?hg (N := 1) ?hd (cs := #[.int .i64 W, .int .i64 H, .int .i64 D, .int .i64 C, .int .i64 L]) (t := 23) ?hr ?_; (case hd => rfl); (case hg => rfl); (case hr => first | (go_simp; done) | (go_simp; rfl)); intro gh hg w1 hbox hb; have GH := Aside0.mk hg; have HB1 := Aside0.mk hb; have BX1 := Aside0.mk hbox; have hcz_0 : w1.cell? ⟨gh, 0, none⟩ = some (.int .i64 W) := (blk_cell hbox 0).trans rfl; have hcz_1 : w1.cell? ⟨gh, 1, none⟩ = some (.int .i64 H) := (blk_cell hbox 1).trans rfl; have hcz_2 : w1.cell? ⟨gh, 2, none⟩ = some (.int .i64 D) := (blk_cell hbox 2).trans rfl; have hcz_3 : w1.cell? ⟨gh, 3, none⟩ = some (.int .i64 C) := (blk_cell hbox 3).trans rfl; have hcz_4 : w1.cell? ⟨gh, 4, none⟩ = some (.int .i64 L) := (blk_cell hbox 4).trans rfl; clear hb hbox hg) | (go_at_call 11; (with_reducible refine (lace_Passes.calls k W H D C L l _ HP.out).mono ?_); rintro e w2 ⟨v0, rfl, hR, hb2⟩; obtain ⟨A0, c0, e0⟩ := Kd.R_slice hR; subst e0; have HR2 := Aside0.mk hR; have HB2 := Aside0.mk hb2; clear hR hb2 hcz_0 hcz_1 hcz_2 hcz_3 hcz_4; have hl0 : ((l.length : Int) == 0) = false := beq_eq_false_iff_ne.mpr (fun h => NE.out (List.length_eq_zero_iff.1 (by omega))); have hl1 : decide (l = []) = false := decide_eq_false NE.out; have hl2 : ¬ l = [] := NE.out))
  have HS0 := Aside0.mk (show LoS w gh w2.heap.size (.slice A0 l.length c0) l W H D C L [] (w2.alloc (.map #[] 0)) from
    ⟨below_alloc (HB1.out.trans (HB2.out.mono HB1.out.size)) _, Kd.R_alloc (Kd.R_mono (Kd.R_elderB (Kd.R_lower HR2.out HB1.out.size) w2.heap.size (Nat.le_refl _)) (fun _ hk => hk.2)) _,
      blk_alloc ((HB2.out.block gh (Array.getElem?_eq_some_iff.1 BX1.out).1).trans BX1.out) _, IsSet.made _ _ _ _ _, by have h1 := (Array.getElem?_eq_some_iff.1 BX1.out).1; have h2 := HB2.out.size; omega, Nat.le_trans HB1.out.size HB2.out.size⟩)
  clear HB1 HB2 HR2 BX1 GH
  generalize w2.alloc (.map #[] 0) = w3 at HS0 ⊢
  generalize w2.heap.size = gm at HS0 ⊢
  have hlen : l.length ≤ 1000 := OK.out.len
  clear hmm hl0 hl1 hl2
  go_loopw [5] (fun v w' => ∃ i : Nat, v = .int .i64 (i : Int) ∧ i ≤ l.length ∧ Aside0 (LoS w gh gm (.slice A0 l.length c0) l W H D C L (lo_i l i) w')) (fun v _ => l.length - (intOf v).toNat)
  case atStart => exact ⟨0, rfl, Nat.zero_le _, HS0⟩
  case round =>
    obtain ⟨i, rfl, hi, HS⟩ := hrel
    clear HS0
    by_cases hlt : i < l.length
    · have b0 : decide ((i : Int) < (l.length : Int)) = true := decide_eq_true (by omega)
      have b1 : decide (i < l.length) = true := decide_eq_true hlt
      have p0 : 0 ≤ (i : Int) := by omega
      have q0 : (i : Int) < (l.length : Int) := by omega
      obtain ⟨p, hp⟩ : ∃ p, rd_T34 l (i : Int) = p := ⟨_, rfl⟩
      obtain ⟨ad, e1, hx_0, hx_1, hx_2, hx_3, hx_4, hx_5⟩ := at_T34 (Kd.R_reads' HS.out.row).2.2 (i : Int) p0 q0
      cases e1
      have RG := OK.out.rg i hlt
      rw [hp] at hx_0 hx_1 hx_2 hx_3 hx_4 hx_5 RG
      have HPP := Aside0.mk hp
      clear hp
      rw [Int.toNat_natCast] at hx_0 hx_1 hx_2 hx_3 hx_4 hx_5
      replace p0 := eq_true p0
      replace q0 := eq_true q0
      obtain ⟨a45, ha45⟩ : ∃ a, p.f4 * p.f5 = a := ⟨_, rfl⟩
      rw [ha45] at RG
      have t0 : decide (p.f4 < 1) = false := decide_eq_false (by omega)
      have t1 : decide (p.f5 < 1) = false := decide_eq_false (by omega)
      have t2 : decide (p.f0 < 0) = false := decide_eq_false (by omega)
      have t3 : decide (p.f1 < 0) = false := decide_eq_false (by omega)
      have t4 : decide (p.f2 < 1) = false := decide_eq_false (by omega)
      have t5 : decide (p.f3 < 1) = false := decide_eq_false (by omega)
      have t6 : decide (4096 < a45) = false := decide_eq_false (by omega)
      have a45n : 0 ≤ a45 := by rw [← ha45]; exact Int.mul_nonneg (by omega) (by omega)
      have t7 : IntKind.i64.wrap (p.f4 * p.f5) = a45 := by rw [ha45, i64_w]; unfold wrap64; omega
      have t8 : wrap64 (p.f4 * p.f5) = a45 := by rw [ha45]; unfold wrap64; omega
      clear ha45 a45n
      have RGG := Aside0.mk RG
      clear RG
      go_wp2_with (first | ((with_reducible refine gate_dst (N := 6) rfl ?_); refine box_event ?hg (N := 6) ?hd (cs := #[.int .i64 0, .int .i64 0, .int .i64 0, .int .i64 0, .int .i64 0, .int .i64 0]) (t := 34) ?hr ?_; (case hd => rfl); (case hg => rfl); (case hr => first | (go_simp; done) | (go_simp; rfl)); intro gp hg w4 hbox hb; have GP := Aside0.mk hg; have BX := Aside0.mk hbox; have HB4 := Aside0.mk hb; have NP := Aside0.mk (show gp ≠ gm by have h1 := HS.out.set.lt; omega); clear hb hbox hg hx_0 hx_1 hx_2 hx_3 hx_4 hx_5) | ((with_reducible refine gate_store (t := 34) (p := 6) rfl ?_); refine wpList_store_row rfl 34 _ _ rfl gp #[.int .i64 p.f0, .int .i64 p.f1, .int .i64 p.f2, .int .i64 p.f3, .int .i64 p.f4, .int .i64 p.f5] rfl rfl 34 _ BX.out (by kernel_rfl) rfl (by kernel_rfl) ?_; have HS1 := Aside0.mk (HS.out.step (below_setRow HB4.out (g := gp) (Nat.le_of_eq GP.out.symm) #[.int .i64 p.f0, .int .i64 p.f1, .int .i64 p.f2, .int .i64 p.f3, .int .i64 p.f4, .int .i64 p.f5])); have P1 := Aside0.mk (setRow_heap w4 gp _ #[.int .i64 p.f0, .int .i64 p.f1, .int .i64 p.f2, .int .i64 p.f3, .int .i64 p.f4, .int .i64 p.f5] 34 (0, 0) BX.out); generalize w4.setRow gp #[.int .i64 p.f0, .int .i64 p.f1, .int .i64 p.f2, .int .i64 p.f3, .int .i64 p.f4, .int .i64 p.f5] = w5 at HS1 P1 ⊢; have hz_0 : w5.cell? ⟨gp, 0, none⟩ = some (.int .i64 p.f0) := (blk_cell P1.out 0).trans rfl; have hz_1 : w5.cell? ⟨gp, 1, none⟩ = some (.int .i64 p.f1) := (blk_cell P1.out 1).trans rfl; have hz_2 : w5.cell? ⟨gp, 2, none⟩ = some (.int .i64 p.f2) := (blk_cell P1.out 2).trans rfl; have hz_3 : w5.cell? ⟨gp, 3, none⟩ = some (.int .i64 p.f3) := (blk_cell P1.out 3).trans rfl; have hz_4 : w5.cell? ⟨gp, 4, none⟩ = some (.int .i64 p.f4) := (blk_cell P1.out 4).trans rfl; have hz_5 : w5.cell? ⟨gp, 5, none⟩ = some (.int .i64 p.f5) := (blk_cell P1.out 5).trans rfl; clear HS HB4 GP BX))
      clear hz_0 hz_1 hz_2 hz_3 hz_4 hz_5 t0 t1 t2 t3 t4 t5 t6 t7 t8 b0 b1 p0 q0
      obtain ⟨n4, hn4⟩ : ∃ n : Nat, p.f4 = (n : Int) := ⟨p.f4.toNat, by have := RGG.out.1; omega⟩
      obtain ⟨n5, hn5⟩ : ∃ n : Nat, p.f5 = (n : Int) := ⟨p.f5.toNat, by have := RGG.out.2.2.1; omega⟩
      have H4 := Aside0.mk hn4
      have H5 := Aside0.mk hn5
      have L4 : n4 ≤ 1024 := by have := RGG.out.2.1; omega
      have L5 : n5 ≤ 1024 := by have := RGG.out.2.2.2.1; omega
      clear hn4 hn5
      obtain ⟨wi, rfl⟩ : ∃ wi : World, wi = w5 := ⟨_, rfl⟩
      go_loopw [7] (fun v w' => ∃ y : Nat, v = .int .i64 (y : Int) ∧ y ≤ n5 ∧ Aside0 (LoS w gh gm (.slice (some ad) l.length c0) l W H D C L (lo_y p (lo_i l i) y) w') ∧ Aside0 (w'.heap[gp]? = some (.cells #[.int .i64 p.f0, .int .i64 p.f1, .int .i64 p.f2, .int .i64 p.f3, .int .i64 p.f4, .int .i64 p.f5] 34 (0, 0)))) (fun v _ => n5 - (intOf v).toNat)
      case atStart => exact ⟨0, rfl, Nat.zero_le _, HS1, P1⟩
      case round =>
        obtain ⟨y, rfl, hy, HS, P⟩ := hrel
        clear HS1 P1
        have hz_5 : wr.cell? ⟨gp, 5, none⟩ = some (.int .i64 p.f5) := (blk_cell P.out 5).trans rfl
        by_cases hyl : y < n5
        · have b0 : decide ((y : Int) < p.f5) = true := decide_eq_true (by rw [H5.out]; omega)
          go_wp2
          clear b0 hz_5
          obtain ⟨wi2, hwi2⟩ : ∃ wi : World, wi = wr := ⟨_, rfl⟩
          rw [← hwi2] at HS P ⊢
          clear hwi2
          go_loopw [8] (fun v w' => ∃ x : Nat, v = .int .i64 (x : Int) ∧ x ≤ n4 ∧ Aside0 (LoS w gh gm (.slice (some ad) l.length c0) l W H D C L (lo_x p y (lo_y p (lo_i l i) y) x) w') ∧ Aside0 (w'.heap[gp]? = some (.cells #[.int .i64 p.f0, .int .i64 p.f1, .int .i64 p.f2, .int .i64 p.f3, .int .i64 p.f4, .int .i64 p.f5] 34 (0, 0)))) (fun v _ => n4 - (intOf v).toNat)
          case atStart => exact ⟨0, rfl, Nat.zero_le _, HS, P⟩
          case round =>
            obtain ⟨x, rfl, hx, HS, P⟩ := hrel
            have hz_4 : wr.cell? ⟨gp, 4, none⟩ = some (.int .i64 p.f4) := (blk_cell P.out 4).trans rfl
            by_cases hxl : x < n4
            · have NEW := lo_new OK.out hlt (y := y) (x := x) (by rw [HPP.out, H5.out]; omega) (by rw [HPP.out, H4.out]; omega)
              rw [HPP.out] at NEW
              obtain ⟨S, hS⟩ : ∃ S, lo_x p y (lo_y p (lo_i l i) y) x = S := ⟨_, rfl⟩
              rw [hS] at HS NEW
              obtain ⟨ax, hax⟩ : ∃ a, (x : Int) * p.f2 = a := ⟨_, rfl⟩
              obtain ⟨ay, hay⟩ : ∃ a, (y : Int) * p.f3 = a := ⟨_, rfl⟩
              have ax0 : 0 ≤ ax := by rw [← hax]; exact Int.mul_nonneg (by omega) (by have := RGG.out; omega)
              have ay0 : 0 ≤ ay := by rw [← hay]; exact Int.mul_nonneg (by omega) (by have := RGG.out; omega)
              have ax1 : ax ≤ 1024 * 8 := by rw [← hax]; exact Int.mul_le_mul (by omega) (by have := RGG.out; omega) (by have := RGG.out; omega) (by decide)
              have ay1 : ay ≤ 1024 * 8 := by rw [← hay]; exact Int.mul_le_mul (by omega) (by have := RGG.out; omega) (by have := RGG.out; omega) (by decide)
              obtain ⟨qx, hqx⟩ : ∃ a, p.f0 + ax = a := ⟨_, rfl⟩
              obtain ⟨qy, hqy⟩ : ∃ a, p.f1 + ay = a := ⟨_, rfl⟩
              have hat : lo_at p y x = (qx, qy) := by unfold lo_at; rw [hax, hay, hqx, hqy]
              rw [hat] at NEW
              have qxr : -9223372036854775808 ≤ qx ∧ qx ≤ 9223372036854775807 := by have := RGG.out; omega
              have qyr : -9223372036854775808 ≤ qy ∧ qy ≤ 9223372036854775807 := by have := RGG.out; omega
              have m1 : IntKind.i64.wrap ((x : Int) * p.f2) = ax := by rw [hax, i64_w]; unfold wrap64; omega
              have m2 : wrap64 ((x : Int) * p.f2) = ax := by rw [hax]; unfold wrap64; omega
              have m3 : IntKind.i64.wrap ((y : Int) * p.f3) = ay := by rw [hay, i64_w]; unfold wrap64; omega
              have m4 : wrap64 ((y : Int) * p.f3) = ay := by rw [hay]; unfold wrap64; omega
              have m5 : IntKind.i64.wrap (p.f0 + ax) = qx := by rw [hqx, i64_w]; unfold wrap64; omega
              have m6 : wrap64 (p.f0 + ax) = qx := by rw [hqx]; unfold wrap64; omega
              have m7 : IntKind.i64.wrap (p.f1 + ay) = qy := by rw [hqy, i64_w]; unfold wrap64; omega
              have m8 : wrap64 (p.f1 + ay) = qy := by rw [hqy]; unfold wrap64; omega
              have b0 : decide ((x : Int) < p.f4) = true := decide_eq_true (by rw [H4.out]; omega)
              have b1 : decide (W ≤ qx) = false := decide_eq_false (by have := NEW.2.1; omega)
              have b2 : decide (H ≤ qy) = false := decide_eq_false (by have := NEW.2.2.1; omega)
              have hx1 : wrap64 ((x : Int) + 1) = ((x + 1 : Nat) : Int) := by unfold wrap64; omega
              have HX1 := Aside0.mk hx1
              have NW := Aside0.mk NEW
              have HAT := Aside0.mk hat
              have HSS := Aside0.mk hS
              have HKEY := Aside0.mk (lo_keyOf (qx, qy) qxr qyr)
              have hz_0 : wr.cell? ⟨gp, 0, none⟩ = some (.int .i64 p.f0) := (blk_cell P.out 0).trans rfl
              have hz_1 : wr.cell? ⟨gp, 1, none⟩ = some (.int .i64 p.f1) := (blk_cell P.out 1).trans rfl
              have hz_2 : wr.cell? ⟨gp, 2, none⟩ = some (.int .i64 p.f2) := (blk_cell P.out 2).trans rfl
              have hz_3 : wr.cell? ⟨gp, 3, none⟩ = some (.int .i64 p.f3) := (blk_cell P.out 3).trans rfl
              clear NEW hS hax hay hqx hqy hat ax0 ay0 ax1 ay1 qxr qyr hx1
              go_wp2_with (first | ((with_reducible refine gate_dst (N := 9) rfl ?_); refine box_event ?hg (N := 9) ?hd (cs := #[.int .i64 0, .int .i64 0]) (t := 35) ?hr ?_; (case hd => rfl); (case hg => rfl); (case hr => first | (go_simp; done) | (go_simp; rfl)); intro ga hg w6 hbox hb; have GA := Aside0.mk hg; have BX := Aside0.mk hbox; have HB6 := Aside0.mk hb; clear hb hbox hg hz_0 hz_1 hz_2 hz_3 hz_4) | ((with_reducible refine gate_store (t := 35) (p := 9) rfl ?_); refine wpList_store_row rfl 35 _ _ rfl ga #[.int .i64 qx, .int .i64 qy] rfl rfl 35 _ BX.out (by kernel_rfl) rfl (by kernel_rfl) ?_; have HB7 := Aside0.mk (below_setRow HB6.out (g := ga) (Nat.le_of_eq GA.out.symm) #[.int .i64 qx, .int .i64 qy]); have HS1 := Aside0.mk (HS.out.step HB7.out); have P1 := Aside0.mk ((HB7.out.block gp (Array.getElem?_eq_some_iff.1 P.out).1).trans P.out); have A1 := Aside0.mk (setRow_heap w6 ga _ #[.int .i64 qx, .int .i64 qy] 35 (0, 0) BX.out); clear HB7; generalize w6.setRow ga #[.int .i64 qx, .int .i64 qy] = w7 at HS1 P1 A1 ⊢; have hq_0 : w7.cell? ⟨ga, 0, none⟩ = some (.int .i64 qx) := (blk_cell A1.out 0).trans rfl; have hq_1 : w7.cell? ⟨ga, 1, none⟩ = some (.int .i64 qy) := (blk_cell A1.out 1).trans rfl; have hh_0 : w7.cell? ⟨gh, 0, none⟩ = some (.int .i64 W) := (blk_cell HS1.out.box 0).trans rfl; have hh_1 : w7.cell? ⟨gh, 1, none⟩ = some (.int .i64 H) := (blk_cell HS1.out.box 1).trans rfl; have hlook : (Instr.lookup 32 (.map (some gm)) (.agg #[.int .i64 qx, .int .i64 qy]) false).run Try.prog w7 = .ok (.bool false) w7 := lo_look HS1.out qx qy HKEY.out NW.out.1; clear HS P HB6 GA BX A1) | (at_mapUpdate; refine wpList_set_put rfl _ _ _ rfl gm S (qx, qy) rfl rfl rfl HS1.out.set (by have := NW.out.2.2.2; unfold maxLen; omega) HKEY.out NW.out.1 ?_; intro w8 hs8 hg8; have HS2 := Aside0.mk (HS1.out.put hg8 hs8); have P2 := Aside0.mk ((hg8.block gp (Array.getElem?_eq_some_iff.1 P1.out).1 (fun e => NP.out (Option.some.inj e))).trans P1.out); clear HS1 P1 hs8 hg8 hq_0 hq_1 hh_0 hh_1 hlook))
              go_roundw
              case rel => exact ⟨x + 1, by first | rfl | (rw [HX1.out]) | go_num, hxl, ⟨by have := HS2.out; rw [show lo_x p y (lo_y p (lo_i l i) y) (x + 1) = (qx, qy) :: S from by show lo_at p y x :: lo_x p y _ x = _; rw [HAT.out, HSS.out]]; exact this⟩, P2⟩
              case measure => first | (simp [intOf]; done) | (simp [intOf]; omega)
            · obtain rfl : x = n4 := by omega
              have b0 : decide ((x : Int) < p.f4) = false := decide_eq_false (by rw [H4.out]; omega)
              have hy1 : wrap64 ((y : Int) + 1) = ((y + 1 : Nat) : Int) := by unfold wrap64; omega
              go_wp2
              go_roundw
              case rel => exact ⟨y + 1, by first | rfl | (rw [hy1]) | go_num, hyl, ⟨by have := HS.out; rw [show lo_y p (lo_i l i) (y + 1) = lo_x p y (lo_y p (lo_i l i) y) x from by show lo_x p y _ p.f4.toNat = _; rw [H4.out]; rfl]; exact this⟩, P⟩
              case measure => first | (simp [intOf]; done) | (simp [intOf]; omega)
        · obtain rfl : y = n5 := by omega
          have b0 : decide ((y : Int) < p.f5) = false := decide_eq_false (by rw [H5.out]; omega)
          have hi1 : wrap64 ((i : Int) + 1) = ((i + 1 : Nat) : Int) := by unfold wrap64; omega
          go_wp2
          go_roundw
          case rel => exact ⟨i + 1, by first | rfl | (rw [hi1]) | go_num, hlt, ⟨by have := HS.out; rw [show lo_i l (i + 1) = lo_y p (lo_i l i) y from by show lo_y (rd_T34 l (i : Int)) _ _ = _; rw [HPP.out, H5.out]; rfl]; exact this⟩⟩
          case measure => first | (simp [intOf]; done) | (simp [intOf]; omega)
    · obtain rfl : i = l.length := by omega
      have b0 : decide ((l.length : Int) < (l.length : Int)) = false := decide_eq_false (by omega)
      have hlen1 := fun ty => HS.out.set.len Try.underlying32 ty
      have hall := OK.out.all
      have hfew := OK.out.few
      obtain ⟨n, hn⟩ : ∃ n, (lo_i l l.length).length = n := ⟨_, rfl⟩
      rw [hn] at hlen1 hall hfew
      have hw1 : IntKind.i64.wrap (W * H) = (n : Int) := by rw [← hall, i64_w]; unfold wrap64; omega
      have hw2 : wrap64 (W * H) = (n : Int) := by rw [← hall]; unfold wrap64; omega
      clear hall hfew hn
      have hz_0 : wr.cell? ⟨gh, 0, none⟩ = some (.int .i64 W) := (blk_cell HS.out.box 0).trans rfl
      have hz_1 : wr.cell? ⟨gh, 1, none⟩ = some (.int .i64 H) := (blk_cell HS.out.box 1).trans rfl
      go_wp2_with (go_at_call 13; (with_reducible refine (vitrinelaw10_awake.calls k r _ AW.out).mono ?_); rintro e w6 ⟨rfl, hb⟩)
      go_ret
      exact ⟨rfl, HS.out.below.trans (hb.mono HS.out.below.size)⟩
set_option maxHeartbeats 40000000 in
set_option maxRecDepth 100000 in
theorem lo_walk0 (k : Nat) (W H D C L : Int) (l : List S34) (r : Bool) (w : World) (hp : lace_Passes.f k W H D C L = some l) (hne : l = []) (hsz : lace_Size.f k W H D C L = some 0) (haw : vitrinelaw10_awake.f k = some r) :
    Calls Try.prog 5 #[.agg #[.int .i64 W, .int .i64 H, .int .i64 D, .int .i64 C, .int .i64 L]] w fun e w' => e = .returned (.bool r) ∧ Below w.heap.size w w' := by
  subst hne
  have HP := Aside0.mk hp
  have SZ := Aside0.mk hsz
  have AW := Aside0.mk haw
  clear hp hsz haw
  go_enter Try.func5, Try.ntmps5
  go_wp2_with (first | ((with_reducible refine gate_dst (N := 1) rfl ?_); refine box_event ?hg (N := 1) ?hd (cs := #[.int .i64 W, .int .i64 H, .int .i64 D, .int .i64 C, .int .i64 L]) (t := 23) ?hr ?_; (case hd => rfl); (case hg => rfl); (case hr => first | (go_simp; done) | (go_simp; rfl)); intro gh hg w1 hbox hb; have HB1 := Aside0.mk hb; have BX1 := Aside0.mk hbox; have hcz_0 : w1.cell? ⟨gh, 0, none⟩ = some (.int .i64 W) := (blk_cell hbox 0).trans rfl; have hcz_1 : w1.cell? ⟨gh, 1, none⟩ = some (.int .i64 H) := (blk_cell hbox 1).trans rfl; have hcz_2 : w1.cell? ⟨gh, 2, none⟩ = some (.int .i64 D) := (blk_cell hbox 2).trans rfl; have hcz_3 : w1.cell? ⟨gh, 3, none⟩ = some (.int .i64 C) := (blk_cell hbox 3).trans rfl; have hcz_4 : w1.cell? ⟨gh, 4, none⟩ = some (.int .i64 L) := (blk_cell hbox 4).trans rfl; clear hb hbox hg) | (go_at_call 11; (with_reducible refine (lace_Passes.calls k W H D C L [] _ HP.out).mono ?_); rintro e w2 ⟨v0, rfl, hR, hb2⟩; obtain ⟨A0, c0, e0⟩ := Kd.R_slice hR; subst e0; have HB2 := Aside0.mk (HB1.out.trans (hb2.mono HB1.out.size)); have BX2 := Aside0.mk ((hb2.block gh (Array.getElem?_eq_some_iff.1 BX1.out).1).trans BX1.out); clear hR hb2 HB1 BX1 hcz_0 hcz_1 hcz_2 hcz_3 hcz_4; have hcz_0 : w2.cell? ⟨gh, 0, none⟩ = some (.int .i64 W) := (blk_cell BX2.out 0).trans rfl; have hcz_1 : w2.cell? ⟨gh, 1, none⟩ = some (.int .i64 H) := (blk_cell BX2.out 1).trans rfl; have hcz_2 : w2.cell? ⟨gh, 2, none⟩ = some (.int .i64 D) := (blk_cell BX2.out 2).trans rfl; have hcz_3 : w2.cell? ⟨gh, 3, none⟩ = some (.int .i64 C) := (blk_cell BX2.out 3).trans rfl; have hcz_4 : w2.cell? ⟨gh, 4, none⟩ = some (.int .i64 L) := (blk_cell BX2.out 4).trans rfl) | (go_at_call 16; (with_reducible refine (lace_Size.calls k W H D C L 0 _ SZ.out).mono ?_); rintro e w3 ⟨rfl, hb3⟩; have HB3 := Aside0.mk (HB2.out.trans (hb3.mono HB2.out.size)); clear hb3 HB2 hcz_0 hcz_1 hcz_2 hcz_3 hcz_4) | (go_at_call 13; (with_reducible refine (vitrinelaw10_awake.calls k r _ AW.out).mono ?_); rintro e w6 ⟨rfl, hb⟩))
  go_ret
  exact ⟨rfl, HB3.out.trans (hb.mono HB3.out.size)⟩
def lo_okP (W H : Int) (l : List S34) : Prop :=
  (1 ≤ W ∧ W ≤ 1024 ∧ 1 ≤ H ∧ H ≤ 1024) ∧ l.length ≤ 1000 ∧ (∀ i : Nat, i < l.length → 1 ≤ (rd_T34 l (i : Int)).f4 ∧ (rd_T34 l (i : Int)).f4 ≤ 1024 ∧ 1 ≤ (rd_T34 l (i : Int)).f5 ∧ (rd_T34 l (i : Int)).f5 ≤ 1024 ∧ 0 ≤ (rd_T34 l (i : Int)).f0 ∧ (rd_T34 l (i : Int)).f0 ≤ 8 ∧ 0 ≤ (rd_T34 l (i : Int)).f1 ∧ (rd_T34 l (i : Int)).f1 ≤ 8 ∧ 1 ≤ (rd_T34 l (i : Int)).f2 ∧ (rd_T34 l (i : Int)).f2 ≤ 8 ∧ 1 ≤ (rd_T34 l (i : Int)).f3 ∧ (rd_T34 l (i : Int)).f3 ≤ 8 ∧ (rd_T34 l (i : Int)).f4 * (rd_T34 l (i : Int)).f5 ≤ 4096) ∧ (lo_i l l.length).Nodup ∧ (∀ q ∈ lo_i l l.length, q.1 < W ∧ q.2 < H) ∧ ((lo_i l l.length).length : Int) = W * H ∧ (lo_i l l.length).length ≤ 4096
instance (W H : Int) (l : List S34) : Decidable (lo_okP W H l) := by unfold lo_okP; exact inferInstance
theorem lo_okP.ok {W H : Int} {l : List S34} (h : lo_okP W H l) : lo_ok W H l := ⟨h.1, h.2.1, h.2.2.1, h.2.2.2.1, h.2.2.2.2.1, h.2.2.2.2.2.1, h.2.2.2.2.2.2⟩
def vitrinelaw10_LaceOnce.f (k : Nat) (a0_0 : Int) (a0_1 : Int) (a0_2 : Int) (a0_3 : Int) (a0_4 : Int) : Option Bool := (lace_Passes.f k a0_0 a0_1 a0_2 a0_3 a0_4).bind fun l => if l.length = 0 then ((lace_Size.f k a0_0 a0_1 a0_2 a0_3 a0_4).bind fun s => if s = 0 then vitrinelaw10_awake.f k else none) else if lo_okP a0_0 a0_1 l then vitrinelaw10_awake.f k else none
theorem vitrinelaw10_LaceOnce.mono : ∀ a0 a1 a2 a3 a4 k, LeO (vitrinelaw10_LaceOnce.f k a0 a1 a2 a3 a4) (vitrinelaw10_LaceOnce.f (k + 1) a0 a1 a2 a3 a4) := by
  intro a0 a1 a2 a3 a4 k
  unfold vitrinelaw10_LaceOnce.f
  exact LeO.bind (lace_Passes.mono _ _ _ _ _ _) (fun _ => LeO.ite (LeO.bind (lace_Size.mono _ _ _ _ _ _) (fun _ => LeO.ite (vitrinelaw10_awake.mono _) (LeO.refl _))) (LeO.ite (vitrinelaw10_awake.mono _) (LeO.refl _)))
theorem vitrinelaw10_LaceOnce.calls (k : Nat) (a0_0 : Int) (a0_1 : Int) (a0_2 : Int) (a0_3 : Int) (a0_4 : Int) (r : Bool) (w : World) (h : vitrinelaw10_LaceOnce.f k a0_0 a0_1 a0_2 a0_3 a0_4 = some r) :
    Calls Try.prog 5 #[.agg #[.int .i64 a0_0, .int .i64 a0_1, .int .i64 a0_2, .int .i64 a0_3, .int .i64 a0_4]] w fun e w' => e = .returned (.bool r) ∧ Below w.heap.size w w' := by
  unfold vitrinelaw10_LaceOnce.f at h
  obtain ⟨l, hp, h⟩ := Option.bind_eq_some_iff.mp h
  by_cases c0 : l.length = 0
  · rw [if_pos c0] at h
    obtain ⟨s, hs, h⟩ := Option.bind_eq_some_iff.mp h
    by_cases c1 : s = 0
    · rw [if_pos c1] at h
      subst c1
      exact lo_walk0 k a0_0 a0_1 a0_2 a0_3 a0_4 l r w hp (List.length_eq_zero_iff.1 c0) hs h
    · rw [if_neg c1] at h
      cases h
  · rw [if_neg c0] at h
    by_cases c1 : lo_okP a0_0 a0_1 l
    · rw [if_pos c1] at h
      exact lo_walk k a0_0 a0_1 a0_2 a0_3 a0_4 l r w hp (fun e => c0 (by rw [e]; rfl)) c1.ok h
    · rw [if_neg c1] at h
      cases h


end Go.Proofs.Ytlonbchidopcpaa.PL10
