/- Printed for this claim by a program of this session over the kit's print program: the Go functions as Lean functions, and proofs that the calls come to these answers. No conditions. -/
import Derived.Test.YtbonmhgihedjpaaXB
import Derived.Test.YtbonmhgihedjpaaXD
import Derived.LoopTactic
import Derived.Lib.MakeNoZero
import Derived.Lib.Builder
import Derived.Test.YtbonmhgihedjpaaXPL15x0
namespace Go.Proofs.Ytbonmhgihedjpaa.PL15
open Go.RowKit Go.Proofs.YtbonmhgihedjpaaW.PrintWords Go.Proofs.YtbonmhgihedjpaaW.PrintLast Go.Proofs.YtbonmhgihedjpaaW.PrintMore
attribute [local go_sem] max2_int min2_int max_two min_two max_three min_three max_four min_four   -- for this text's walks alone
set_option linter.unusedVariables false
set_option linter.unusedSimpArgs false

-- NOT PRINTED: function 54 (bytealg_MakeNoZero)

-- NOT PRINTED: function 52 (strings_Builder_grow)

-- NOT PRINTED: function 47 (strings_Builder_Grow)

def joinN (l : List ByteArray) : Nat → ByteArray
 | 0 => ByteArray.empty
 | i + 1 => joinN l i ++ rdOf ByteArray.empty l (i : Int)
theorem joinN_mono (l : List ByteArray) (i : Nat) : ∀ d, (joinN l i).size ≤ (joinN l (i + d)).size
 | 0 => Nat.le_refl _
 | d + 1 => by
  refine Nat.le_trans (joinN_mono l i d) ?_
  show _ ≤ (joinN l (i + d) ++ _).size
  rw [ByteArray.size_append]
  omega
theorem join_lies : Go.Proofs.YtbonmhgihedjpaaD.Lies 49 2 0 := ⟨by decide, by decide, by kernel_rfl⟩
def JF (B b : Nat) (w w' : World) : Prop := (∀ K, K ≤ b → K ≤ B → Below K w w') ∧ w.heap.size ≤ w'.heap.size
def JB (B b : Nat) (s : ByteArray) (w : World) : Prop := ∃ cs : Array Value, cs.size = 2 ∧ Go.Proofs.YtbonmhgihedjpaaD.BAt B b 0 49 cs (Lib.strCells s) w
theorem join_str (B b : Nat) (s t : ByteArray) (w : World) (hs : s.size + t.size ≤ 140737488355328) (h : JB B b s w) (hB : B ≤ w.heap.size) :
  Calls Try.prog 27 #[.pointer (some ⟨b, 0, none⟩), .string t] w fun e w' => (∃ v, e = .returned v) ∧ JB B b (s ++ t) w' ∧ JF B b w w' := by
 obtain ⟨cs, hcs, hA⟩ := h
 refine (Go.Proofs.YtbonmhgihedjpaaD.WriteString_at B b 0 49 cs _ t w (by rw [hcs]; exact join_lies) hA (by rw [Lib.strCells_length]; exact hs) hB).mono ?_
 rintro e w' ⟨rfl, ⟨v', h2⟩, h3, h4, h5, h6⟩
 refine ⟨⟨_, rfl⟩, ⟨(cs.setIfInBounds 0 (.pointer (some ⟨b, 0, none⟩))).setIfInBounds (0 + 1) v', by rw [Array.size_setIfInBounds, Array.size_setIfInBounds, hcs], ?_⟩, h3, h4⟩
 rw [Go.Proofs.YtbonmhgihedjpaaB.cells_add]
 exact h2
theorem join_string (B b : Nat) (s : ByteArray) (w : World) (h : JB B b s w) (hB : B ≤ w.heap.size) :
  Calls Try.prog 29 #[.pointer (some ⟨b, 0, none⟩)] w fun e w' => e = .returned (.string s) ∧ JF B b w w' := by
 obtain ⟨cs, hcs, hA⟩ := h
 refine (Go.Proofs.YtbonmhgihedjpaaD.String_at B b 0 49 cs s w hA hB).mono ?_
 rintro e w' ⟨rfl, h2, h3, h4, h5, h6⟩
 exact ⟨rfl, fun K _ hK => h3 K hK, h4⟩
theorem join_copyNone (W : World) (g n : Nat) : (Builtin.copy_ #[47, 47] 3 #[.slice (some ⟨g, 0, none⟩) 0 n, .slice none 0 0]).run Try.prog W = .ok (goInt 0) W :=
 run_copy_none W 47 47 3 5 _ _ 0 n 0 0 Try.underlying47 (by kernel_rfl) rfl
set_option maxHeartbeats 4000000 in
set_option maxRecDepth 100000 in
theorem join_grow1 (B b n : Nat) (w : World) (hn : n ≤ 1099511627776) (hBb : B ≤ b) (hbk : w.heap[b]? = some (.cells #[.pointer (some ⟨b, 0, none⟩), .slice none 0 0] 49 (0, 0))) (hB : B ≤ w.heap.size) :
  Calls Try.prog 52 #[.pointer (some ⟨b, 0, none⟩), .int .i64 (n : Int)] w fun e w' => e = .returned (.tuple #[]) ∧ Lib.BuilderAt 49 5 B b (.pointer (some ⟨b, 0, none⟩)) [] w' ∧ Below B w w' := by
 obtain ⟨cs, hrun, hle, hmax⟩ := Lib.run_makeNoZero (P := Try.prog) w.drew #[3] 47 5 Try.underlying47 n (by omega)
 have hw : IntKind.i64.wrap (IntKind.i64.wrap 0 + (n : Int)) = n := by
  rw [IntKind.wrap_i64, IntKind.wrap_i64]
  omega
 have hw2 : IntKind.i64.wrap (0 + (n : Int)) = n := by
  rw [IntKind.wrap_i64]
  omega
 have hcall : (callFunc 54 #[.int .i64 (n : Int)]).run Try.prog w.drew = .ok (.value (.slice (some ⟨w.drew.heap.size, 0, none⟩) n cs.size)) (w.drew.drew.drew.alloc (.cells cs 5)) := by
  rw [run_callFunc_extern Try.func54 (by kernel_rfl) (by kernel_rfl) (by kernel_rfl) (e := Extern.BytealgMakeNoZero.makeNoZero #[3] #[47]) (by kernel_rfl), hrun]
  rfl
 have hcall2 : (callFunc 54 #[.int .i64 (IntKind.i64.wrap (IntKind.i64.wrap 0 + (n : Int)))]).run Try.prog w.drew = .ok (.value (.slice (some ⟨w.drew.heap.size, 0, none⟩) n cs.size)) (w.drew.drew.drew.alloc (.cells cs 5)) := by
  rw [hw]; exact hcall
 have hlt : b < w.heap.size := (Array.getElem?_eq_some_iff.1 hbk).1
 have c1 : w.drew.cell? ⟨b, 1, none⟩ = some (.slice none 0 0) := by
  have : w.drew.heap[b]? = _ := hbk
  rw [Lib.cell_of_heap this]; rfl
 have c2 : (w.alloc (.cells cs 5)).cell? ⟨b, 1, none⟩ = some (.slice none 0 0) := by
  have : (w.alloc (.cells cs 5)).heap[b]? = _ := (Lib.alloc_old w _ b hlt).trans hbk
  rw [Lib.cell_of_heap this]; rfl
 have f2 : (w.alloc (.cells cs 5)).frozen? ⟨b, 1, none⟩ = false := Lib.frozen_of_heap ((Lib.alloc_old w _ b hlt).trans hbk) 1
 have hcopy := fun W : World => join_copyNone W w.heap.size cs.size
 clear hw hw2
 go_enter Try.func52, Try.ntmps52
 go_wp2
 have hfin := Lib.grown_fresh (T := 49) (e := 5) (cs := cs) hBb hbk hB (hmax (by unfold maxLen; omega)) (by decide)
 rw [World.setCell_alloc_past _ b 1 _ hlt] at hfin
 go_region
 all_goals (go_wp2; go_end0; exact ⟨rfl, hfin⟩)
set_option maxHeartbeats 4000000 in
set_option maxRecDepth 100000 in
theorem join_grow (B b n : Nat) (w : World) (hn : n ≤ 1099511627776) (hBb : B ≤ b) (hbk : w.heap[b]? = some (.cells #[.pointer none, .slice none 0 0] 49 (0, 0))) (hB : B ≤ w.heap.size) :
  Calls Try.prog 47 #[.pointer (some ⟨b, 0, none⟩), .int .i64 (n : Int)] w fun e w' => (∃ v, e = .returned v) ∧ JB B b ByteArray.empty w' ∧ Below B w w' := by
 have hbk1 : (w.setCell ⟨b, 0, none⟩ (.pointer (some ⟨b, 0, none⟩))).heap[b]? = some (.cells #[.pointer (some ⟨b, 0, none⟩), .slice none 0 0] 49 (0, 0)) := by
  simp [World.setCell, Array.getElem?_modify, hbk]
 have c1 : (w.setCell ⟨b, 0, none⟩ (.pointer (some ⟨b, 0, none⟩))).cell? ⟨b, 1, none⟩ = some (.slice none 0 0) := by rw [Lib.cell_of_heap hbk1]; rfl
 have hb1 : Below B w (w.setCell ⟨b, 0, none⟩ (.pointer (some ⟨b, 0, none⟩))) := (Below.refl B w).setCell (p := ⟨b, 0, none⟩) hBb _
 have hU : Lib.BuilderAt 49 5 B b (.pointer (some ⟨b, 0, none⟩)) [] (w.setCell ⟨b, 0, none⟩ (.pointer (some ⟨b, 0, none⟩))) := ⟨hBb, .slice none 0 0, hbk1, World.ownsRow_nil _ _ _ _, by simp [Value.ownBlock]⟩
 have c1' : (w.setCell ⟨b, 0, none⟩ (.pointer (some ⟨b, 0, none⟩))).drew.cell? ⟨b, 1, none⟩ = some (.slice none 0 0) := c1
 have key : ∀ w', Lib.BuilderAt 49 5 B b (.pointer (some ⟨b, 0, none⟩)) [] w' → JB B b ByteArray.empty w' := fun w' h => by
  obtain ⟨_, v, h1, h2, h3⟩ := h
  exact ⟨_, rfl, h1, _, v, rfl, rfl, .inr rfl, World.ownsRowF_of h2, h3⟩
 go_enter Try.func47, Try.ntmps47
 go_wp2_with (go_at_call 41; refine (Go.Proofs.YtbonmhgihedjpaaD.copyCheck_fresh b 0 2 49 w join_lies (by rw [Lib.cell_of_heap hbk]; rfl) (by simp [World.shape?, hbk]) (Lib.frozen_of_heap hbk 0)).mono ?_; rintro e w' ⟨rfl, rfl⟩)
 go_region
 all_goals go_wp2_with (go_at_call 52; refine (join_grow1 B b n (w.setCell ⟨b, 0, none⟩ (.pointer (some ⟨b, 0, none⟩))).drew hn hBb hbk1 (by simpa [World.setCell, World.drew, -World.drew_eq] using hB)).mono ?_; rintro e w' ⟨rfl, h1, h2⟩)
 all_goals first
  | (go_end0; exact ⟨⟨_, rfl⟩, key _ h1, hb1.drew.trans h2⟩)
  | (go_end0; exact ⟨⟨_, rfl⟩, key _ hU.drew, hb1.drew⟩)
theorem join_readN {ad : Addr} {l : List ByteArray} {w w' : World} (hr : Kd.C Kd.string w (some ad) l.length l) (hb : Below w.heap.size w w') (i : Nat) (h : i < l.length) : w'.cell? (ad.add i) = some (.string (rdOf ByteArray.empty l (i : Int))) := by
 obtain ⟨ad', e1, hx⟩ := Kd.at_string (Kd.Heap.C Kd.heap_string (fun k hk => hb.block k hk) hr) (i : Int) (by omega) (by omega)
 cases e1
 rw [Int.toNat_natCast] at hx
 exact hx
theorem join_read0 {ad : Addr} {l : List ByteArray} {w w' : World} (hr : Kd.C Kd.string w (some ad) l.length l) (hb : Below w.heap.size w w') (h : 0 < l.length) : w'.cell? ad = some (.string (rdOf ByteArray.empty l 0)) := by
 have := join_readN hr hb 0 h
 rw [Addr.add_zero'] at this
 exact this
theorem join_readM {ad : Addr} {l : List ByteArray} {w w' : World} (hr : Kd.C Kd.string w (some ad) l.length l) (hb : Below w.heap.size w w') (i : Nat) (h : i + 1 < l.length) : w'.cell? ⟨ad.block, ad.off + 1 + i, none⟩ = some (.string (rdOf ByteArray.empty l ((i + 1 : Nat) : Int))) := by
 have hx := join_readN hr hb (i + 1) h
 have e : ad.add (i + 1) = ⟨ad.block, ad.off + 1 + i, none⟩ := by
  unfold Addr.add
  simp
  omega
 rw [e] at hx
 exact hx
theorem join_ci {l : List ByteArray} (h : (joinN l l.length).size ≤ 1099511627776) (i : Nat) (hi : i < l.length) : (joinN l i).size + (rdOf ByteArray.empty l (i : Int)).size ≤ 140737488355328 := by
 have h1 := joinN_mono l (i + 1) (l.length - (i + 1))
 rw [Nat.add_sub_cancel' hi] at h1
 have h2 : (joinN l (i + 1)).size = (joinN l i).size + (rdOf ByteArray.empty l (i : Int)).size := ByteArray.size_append
 omega
theorem join_c1 {l : List ByteArray} (h : (joinN l l.length).size ≤ 1099511627776) (hi : 0 < l.length) : ByteArray.empty.size + (rdOf ByteArray.empty l 0).size ≤ 140737488355328 := join_ci h 0 hi
theorem mea_join {i n : Nat} {x : Int} (h : i < n) (hx : x = ((i + 1 : Nat) : Int)) : n - (intOf (.int .i64 x)).toNat < n - (intOf (.int .i64 (i : Int))).toNat := by
 subst hx
 show n - (((i + 1 : Nat) : Int)).toNat < n - ((i : Int)).toNat
 omega
def strings_Join.f (l : List ByteArray) (sep : ByteArray) : Option ByteArray := if sep.size = 0 ∧ (joinN l l.length).size ≤ 1099511627776 ∧ l.length ≤ 4611686018427387904 then some (joinN l l.length) else none
set_option maxHeartbeats 8000000 in
set_option maxRecDepth 100000 in
theorem join_few (A : Option Addr) (c : Nat) (l : List ByteArray) (w : World) (hr : Kd.C Kd.string w A l.length l) (hl : l.length ≤ c) (h2 : l.length < 2) :
  Calls Try.prog 38 #[.slice A l.length c, .string ⟨#[]⟩] w fun e w' => e = .returned (.string (joinN l l.length)) ∧ Below w.heap.size w w' := by
 by_cases h0 : l.length = 0
 ·rw [h0]
  go_enter Try.func38, Try.ntmps38
  go_wp2
  go_ret
  exact ⟨rfl, Below.refl _ _⟩
 ·have h1 : l.length = 1 := by omega
  obtain ⟨ad, e1, hx⟩ := Kd.at_string hr 0 (by omega) (by omega)
  subst e1
  have e2 : joinN l l.length = rdOf ByteArray.empty l 0 := by rw [h1]; exact ByteArray.empty_append
  rw [e2, h1]
  generalize rdOf ByteArray.empty l 0 = s at hx ⊢
  rw [show ((0 : Int)).toNat = 0 from rfl, Addr.add_zero'] at hx
  clear hr hl h2 h0 h1 e2
  go_enter Try.func38, Try.ntmps38
  go_wp2
  go_ret
  exact ⟨rfl, Below.refl _ _⟩
set_option maxHeartbeats 8000000 in
set_option maxRecDepth 100000 in
theorem join_many (A : Option Addr) (c : Nat) (l : List ByteArray) (w : World) (hr : Kd.C Kd.string w A l.length l) (hl : l.length ≤ c) (h2 : 2 ≤ l.length) (hm : l.length ≤ 9223372036854775807) (hs : (joinN l l.length).size ≤ 1099511627776) :
  Calls Try.prog 38 #[.slice A l.length c, .string ⟨#[]⟩] w fun e w' => e = .returned (.string (joinN l l.length)) ∧ Below w.heap.size w w' := by
 obtain ⟨ad, e0, hx0⟩ := Kd.at_string hr 0 (by omega) (by omega)
 subst e0
 rw [show ((0 : Int)).toNat = 0 from rfl, Addr.add_zero'] at hx0
 have t0 : ((l.length : Int) == 0) = false := beq_eq_false_iff_ne.mpr (by omega)
 have t1 : ((l.length : Int) == 1) = false := beq_eq_false_iff_ne.mpr (by omega)
 have t2 : ¬ l = [] := fun e => by rw [e] at h2; exact absurd h2 (by decide)
 have t3 : ¬ l.length = 1 := by omega
 have HR := Aside0.mk hr
 have HL := Aside0.mk hl
 have HS := Aside0.mk hs
 have HM := Aside0.mk hm
 have H2 := Aside0.mk h2
 have HX0 := Aside0.mk hx0
 clear hr hl hs hm h2 hx0
 go_enter Try.func38, Try.ntmps38
 go_wp2
 go_loop [5, 41] (fun n v => ∃ i : Nat, v = .int .i64 (i : Int) ∧ i ≤ l.length ∧ n = .int .i64 ((joinN l i).size : Int)) (fun _ v => l.length - (intOf v).toNat)
 case atStart => exact ⟨0, rfl, Nat.zero_le _, rfl⟩
 case round =>
  obtain ⟨i, rfl, hi, rfl⟩ := hrel
  by_cases hlt : i < l.length
  ·have p0 : (0 : Int) ≤ (i : Int) := by omega
   have q0 : (i : Int) < (l.length : Int) := by omega
   obtain ⟨ad', e1, hx⟩ := Kd.at_string HR.out (i : Int) p0 q0
   cases e1
   rw [Int.toNat_natCast] at hx
   have hz : (joinN l (i + 1)).size = (joinN l i).size + (rdOf ByteArray.empty l (i : Int)).size := by
    show (joinN l i ++ _).size = _
    rw [ByteArray.size_append]
   have hz2 := joinN_mono l (i + 1) (l.length - (i + 1))
   rw [Nat.add_sub_cancel' hlt] at hz2
   have hs := HS.out
   obtain ⟨s, hse⟩ : ∃ s, rdOf ByteArray.empty l (i : Int) = s := ⟨_, rfl⟩
   rw [hse] at hx hz
   obtain ⟨n, hn⟩ : ∃ n, (joinN l i).size = n := ⟨_, rfl⟩
   rw [hn] at hz ⊢
   have b0 : decide ((i : Int) < (l.length : Int)) = true := decide_eq_true q0
   have b1 : decide (i < l.length) = true := decide_eq_true hlt
   have hn1 : n ≤ 1099511627776 := by omega
   have hs1 : s.size ≤ 1099511627776 := by omega
   have hw : wrap64 ((n : Int) + (s.size : Int)) = (((joinN l (i + 1)).size : Nat) : Int) := by rw [hz]; unfold wrap64; omega
   have hw2 : (n : Int) + (s.size : Int) = (((joinN l (i + 1)).size : Nat) : Int) := by rw [hz]; omega
   have hi1 : wrap64 ((i : Int) + 1) = ((i + 1 : Nat) : Int) := by have := HM.out; unfold wrap64; omega
   have hov : decide (9223372036854775807 - (n : Int) < (s.size : Int)) = false := decide_eq_false (by omega)
   have hi2 : (i : Int) ≤ 4611686018427387904 ∨ True := .inr trivial
   have HI1 := Aside0.mk hi1
   have HW1 := Aside0.mk hw
   have HW2 := Aside0.mk hw2
   replace p0 := eq_true p0
   replace q0 := eq_true q0
   clear hz hz2 hs hse hn hw hw2 hi1 hi2
   go_wp2
   go_round
   case rel => exact ⟨i + 1, by first | rfl | (rw [HI1.out]) | go_num, hlt, by first | rfl | (rw [HW1.out]) | (rw [HW2.out])⟩
   case measure => exact mea_join hlt HI1.out
  ·obtain rfl : i = l.length := by omega
   have b0 : decide ((l.length : Int) < (l.length : Int)) = false := decide_eq_false (by omega)
   obtain ⟨N, hN⟩ : ∃ n, (joinN l l.length).size = n := ⟨_, rfl⟩
   have HN := Aside0.mk hN
   rw [hN]
   clear hN
   have z0 : 0 < l.length := by have := H2.out; omega
   have z1 : 1 ≤ l.length := z0
   have z2 : (1 : Int) ≤ (l.length : Int) := by omega
   have z3 : l.length ≤ c := HL.out
   have z4 : ¬ c = 1 := by have := H2.out; omega
   have z5 : (c == 1) = false := beq_eq_false_iff_ne.mpr z4
   have z6 : 1 ≤ c := by omega
   go_wp2_with (first | ((with_reducible refine gate_dst (N := 8) rfl ?_); refine box_event ?hg (N := 8) ?hd (cs := #[.pointer none, .slice none 0 0]) (t := 49) ?hr ?_; (case hd => rfl); (case hg => rfl); (case hr => first | (go_simp; done) | (go_simp; rfl)); intro gb hg w1 hbox hb; have GB := Aside0.mk hg; have BX := Aside0.mk hbox; have HB1 := Aside0.mk hb; clear hb hbox hg) | (go_at_call 47; (with_reducible refine (join_grow w.heap.size gb N _ (by have := HS.out; have := HN.out; omega) (Nat.le_of_eq GB.out.symm) BX.out HB1.out.size).mono ?_); rintro e w2 ⟨⟨v, rfl⟩, h1, h2⟩; have HJ := Aside0.mk h1; have HB2 := Aside0.mk (HB1.out.trans h2); clear h1 h2 HB1 BX; have hx2 := join_read0 HR.out HB2.out (by have := H2.out; omega)) | (go_at_call 27; (with_reducible refine (join_str w.heap.size gb ByteArray.empty (rdOf ByteArray.empty l 0) _ (join_c1 HS.out (by have := H2.out; omega)) HJ.out HB2.out.size).mono ?_); rintro e w3 ⟨⟨v3, rfl⟩, h1, h2⟩; have HJ3 := Aside0.mk (show JB w.heap.size gb (joinN l 1) w3 from h1); have HB3 := Aside0.mk (HB2.out.trans (h2.1 _ (Nat.le_of_eq GB.out.symm) (Nat.le_refl _))); clear h1 h2 HJ HB2 hx2))
   obtain ⟨wi, hwi⟩ : ∃ wi : World, wi = w3 := ⟨_, rfl⟩
   rw [← hwi] at HJ3 HB3 ⊢
   clear hwi z0 z1 z2 z3 z4 z5 z6 b0
   obtain ⟨M, hM⟩ : ∃ m, l.length = m + 1 := ⟨l.length - 1, by have := H2.out; omega⟩
   have HM1 := Aside0.mk hM
   have e1 : l.length - 1 = M := by omega
   rw [e1]
   clear hM e1
   go_loopw [65] (fun v w' => ∃ i : Nat, v = .int .i64 (i : Int) ∧ i ≤ M ∧ Aside0 (JB w.heap.size gb (joinN l (i + 1)) w') ∧ Aside0 (Below w.heap.size w w')) (fun v _ => M - (intOf v).toNat)
   case atStart => exact ⟨0, rfl, Nat.zero_le _, HJ3, HB3⟩
   case round =>
    obtain ⟨i, rfl, hi, HJ, HB⟩ := hrel
    clear HJ3 HB3
    by_cases hilt : i < M
    ·have b0 : decide ((i : Int) < (M : Int)) = true := decide_eq_true (by omega)
     have b1 : decide (i < M) = true := decide_eq_true hilt
     have p0 := eq_true (show (0 : Int) ≤ (i : Int) by omega)
     have q0 := eq_true (show (i : Int) < (M : Int) by omega)
     have hil : i + 1 < l.length := by rw [HM1.out]; omega
     have hx := join_readM HR.out HB.out i hil
     have hc := Aside0.mk (join_ci HS.out (i + 1) hil)
     have hc0 := Aside0.mk (show (joinN l (i + 1)).size + (⟨#[]⟩ : ByteArray).size ≤ 140737488355328 by have := hc.out; show _ + 0 ≤ _; omega)
     have HI1 := Aside0.mk (show wrap64 ((i : Int) + 1) = ((i + 1 : Nat) : Int) by have := HM.out; have := HM1.out; unfold wrap64; omega)
     have e2 := Aside0.mk (show joinN l (i + 1) ++ (⟨#[]⟩ : ByteArray) = joinN l (i + 1) from ByteArray.append_empty)
     generalize hse : rdOf ByteArray.empty l ((i + 1 : Nat) : Int) = s at hx hc
     have HSE := Aside0.mk hse
     generalize hpe : joinN l (i + 1) = P at HJ hc hc0 e2
     have HPE := Aside0.mk hpe
     clear hse hpe hil
     go_wp2_with (first | (go_at_call 27; (with_reducible refine (join_str w.heap.size gb P ⟨#[]⟩ _ hc0.out HJ.out HB.out.size).mono ?_); rintro e w4 ⟨⟨v4, rfl⟩, h1, h2⟩; rw [e2.out] at h1; have HJ1 := Aside0.mk h1; have HB1 := Aside0.mk (HB.out.trans (h2.1 _ (Nat.le_of_eq GB.out.symm) (Nat.le_refl _))); clear h1 h2 HJ HB hx) | (go_at_call 27; (with_reducible refine (join_str w.heap.size gb P s _ hc.out HJ1.out HB1.out.size).mono ?_); rintro e w5 ⟨⟨v5, rfl⟩, h1, h2⟩; have HJ2 := Aside0.mk h1; have HB2 := Aside0.mk (HB1.out.trans (h2.1 _ (Nat.le_of_eq GB.out.symm) (Nat.le_refl _))); clear h1 h2 HJ1 HB1))
     go_roundw
     case rel => exact ⟨i + 1, by first | rfl | (rw [HI1.out]) | go_num, hilt, ⟨by have := HJ2.out; rw [← HPE.out, ← HSE.out] at this; exact this⟩, HB2⟩
     case measure => exact mea_join hilt HI1.out
    ·obtain rfl : i = M := by omega
     have b0 : decide ((i : Int) < (i : Int)) = false := decide_eq_false (by omega)
     have e1 := Aside0.mk (show joinN l (i + 1) = joinN l l.length by rw [HM1.out])
     generalize joinN l (i + 1) = P at HJ e1
     go_wp2_with (go_at_call 29; (with_reducible refine (join_string w.heap.size gb P _ HJ.out HB.out.size).mono ?_); rintro e w4 ⟨rfl, h1⟩; have HF := Aside0.mk h1; clear h1)
     go_ret
     exact ⟨by rw [e1.out]; rfl, HB.out.trans (HF.out.1 _ (Nat.le_of_eq GB.out.symm) (Nat.le_refl _))⟩
theorem strings_Join.calls (A0 : Option Addr) (c0 : Nat) (l0 : List ByteArray) (a1 : ByteArray) (r : ByteArray) (w : World) (hr0 : Kd.C Kd.string w A0 l0.length l0) (hc0 : l0.length ≤ c0) (h : strings_Join.f l0 a1 = some r) :
  Calls Try.prog 38 #[.slice A0 l0.length c0, .string a1] w fun e w' => e = .returned (.string r) ∧ Below w.heap.size w w' := by
 unfold strings_Join.f at h
 by_cases hc : a1.size = 0 ∧ (joinN l0 l0.length).size ≤ 1099511627776 ∧ l0.length ≤ 4611686018427387904
 ·rw [if_pos hc] at h
  obtain rfl := Option.some.inj h
  obtain rfl : a1 = ⟨#[]⟩ := ByteArray.size_eq_zero_iff.1 hc.1
  by_cases h2 : l0.length < 2
  ·exact join_few A0 c0 l0 w hr0 hc0 h2
  ·exact join_many A0 c0 l0 w hr0 hc0 (by omega) (by omega) hc.2.1
 ·rw [if_neg hc] at h
  cases h

end Go.Proofs.Ytbonmhgihedjpaa.PL15
