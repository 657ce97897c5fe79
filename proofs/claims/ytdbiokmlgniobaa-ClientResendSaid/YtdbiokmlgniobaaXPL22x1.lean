/- Printed for this claim by a program of this session over the kit's print program: the Go functions as Lean functions, and proofs that the calls come to these answers. No conditions. -/
import Derived.Test.YtdbiokmlgniobaaXH
import Derived.Test.YtdbiokmlgniobaaXB
import Derived.Test.YtdbiokmlgniobaaXD
import Derived.LoopTactic
import Derived.Lib.MakeNoZero
import Derived.Lib.Builder
import Derived.Test.YtdbiokmlgniobaaXPL22x2
import Derived.Test.YtdbiokmlgniobaaXPL22x6
import Derived.Test.YtdbiokmlgniobaaXPL22x7
namespace Go.Proofs.Ytdbiokmlgniobaa.PL22
open Go.RowKit Go.Proofs.YtdbiokmlgniobaaW.PrintWords Go.Proofs.YtdbiokmlgniobaaW.PrintLast Go.Proofs.YtdbiokmlgniobaaW.PrintMore
attribute [local go_sem] max2_int min2_int max_two min_two max_three min_three max_four min_four   -- for this text's walks alone
set_option linter.unusedVariables false
set_option linter.unusedSimpArgs false

-- NOT PRINTED: function 74 (abi_NoEscape)

-- NOT PRINTED: function 59 (strings_Builder_copyCheck)

def IsS85 (w0 W : World) (g : Nat) (f0 : ByteArray) : Prop := Go.Proofs.YtdbiokmlgniobaaB.Bld g (Lib.strCells f0) W ∧ w0.heap.size ≤ g
theorem IsS85.blk {w0 W : World} {g : Nat} {f0 : ByteArray} (h : IsS85 w0 W g f0) : ∃ p v, W.heap[g]? = some (.cells #[p, v] 85 (0, 0)) := by
 rcases h.1 with ⟨_, v, hb, _⟩ | ⟨_, v, hb, _⟩
 ·exact ⟨_, _, hb⟩
 ·exact ⟨_, _, hb⟩
theorem IsS85.below {w0 W : World} {g : Nat} {f0 : ByteArray} {W1 : World} (h : IsS85 w0 W g f0) (hw : Below W.heap.size W W1) : IsS85 w0 W1 g f0 := ⟨Go.Proofs.YtdbiokmlgniobaaB.bld_below h.1 hw, h.2⟩
theorem IsS85.alloc {w0 W : World} {g : Nat} {f0 : ByteArray} (h : IsS85 w0 W g f0) (o : Obj) : IsS85 w0 (W.alloc o) g f0 := h.below (below_alloc (Below.refl _ _) o)
theorem IsS85.drewN {w0 W : World} {g : Nat} {f0 : ByteArray} (h : IsS85 w0 W g f0) (m : Nat) : IsS85 w0 (W.drewN m) g f0 := ⟨Go.Proofs.YtdbiokmlgniobaaB.bld_drewN h.1 m, h.2⟩
theorem IsS85.drew {w0 W : World} {g : Nat} {f0 : ByteArray} (h : IsS85 w0 W g f0) : IsS85 w0 W.drew g f0 := ⟨Go.Proofs.YtdbiokmlgniobaaB.bld_below h.1 ⟨rfl, rfl, rfl, Nat.le_refl _, fun _ _ => rfl⟩, h.2⟩
theorem IsS85.at_ {w0 W : World} {g : Nat} {f0 : ByteArray} {w' : World} {m : Nat} (hq : W.drewN m = w') (h : IsS85 w0 W g f0) : IsS85 w0 w' g f0 := by subst hq; exact IsS85.drewN h m
theorem IsS85.apart {w0 W : World} {g : Nat} {f0 : ByteArray} {α : Type} {d : Kd α} {e : Nat} {base : Nat} {ok : Nat → Prop} {v : Value} {xs : List α} (h : IsS85 w0 W g f0) (ho : d.R e W base ok v xs) (ht : ∀ q, q ∈ e :: d.E → q ≠ 85) : d.R e W base (fun k => ok k ∧ k ≠ g) v xs := by
 obtain ⟨_, _, hb⟩ := h.blk
 exact Kd.R_types ho hb ht
theorem IsS85.own_ne {w0 W : World} {g : Nat} {f0 : ByteArray} {α : Type} {d : Kd α} {e : Nat} {base : Nat} {ok : Nat → Prop} {v : Value} {xs : List α} (h : IsS85 w0 W g f0) (ho : d.R e W base ok v xs) (ht : e ≠ 85) : some g ≠ v.ownBlock := by
 obtain ⟨_, _, hb⟩ := h.blk
 exact Kd.R_ne ho hb ht
theorem IsS85.lt {w0 W : World} {g : Nat} {f0 : ByteArray} (h : IsS85 w0 W g f0) : g < W.heap.size := Go.Proofs.YtdbiokmlgniobaaB.bld_lt h.1
theorem IsS85.ge {w0 W : World} {g : Nat} {f0 : ByteArray} (h : IsS85 w0 W g f0) : w0.heap.size ≤ g := h.2
theorem IsS85.mk {w0 W : World} {g : Nat} (hb : W.heap[g]? = some (.cells #[.pointer none, .slice none 0 0] 85 (0, 0))) (hg : w0.heap.size ≤ g) : IsS85 w0 W g (⟨#[]⟩ : ByteArray) := ⟨Go.Proofs.YtdbiokmlgniobaaB.bld_box hb, hg⟩
def BKeep (w w' : World) (g : Nat) : Prop := w.heap.size ≤ w'.heap.size ∧ Lib.OthersKept 5 (some g) w w'
theorem BKeep.blk {w w1 : World} {g g' : Nat} {cs : Array Value} {t : TypeId} {fr : Nat × Nat} (hk : BKeep w w1 g) (hb : w.heap[g']? = some (.cells cs t fr)) (hg : g' ≠ g) (ht : t ≠ 5) : w1.heap[g']? = some (.cells cs t fr) := Go.Proofs.YtdbiokmlgniobaaB.kept_block hk.2 hb hg (fun c fz e => by injection e with _ e2; exact ht e2)
theorem BKeep.R {α : Type} {d : Kd α} {w w1 : World} {e base g : Nat} {ok : Nat → Prop} {v : Value} {xs : List α} (h : d.R e w base ok v xs) (hk : BKeep w w1 g) (hok : ∀ k, ok k → k ≠ g) (ht : ∀ q, q ∈ e :: d.E → q ≠ 5) : d.R e w1 base ok v xs := by
 refine Kd.R_mono (Kd.R_step (Kd.R_bound h) (fun k hk' _ => ?_)) (fun _ hk => hk.1)
 obtain ⟨ho, _, _, q, hq, cells, hc⟩ := hk'
 rw [hc]
 exact hk.blk hc (hok k ho) (ht q hq)
def strings_Builder_WriteString.f (s0_0 : ByteArray) (a1 : ByteArray) : Option (Int × Option Int × ByteArray) := if s0_0.size + a1.size ≤ 140737488355328 then some ((a1.size : Int), none, s0_0 ++ a1) else none
theorem strings_Builder_WriteString.calls (g : Nat) (s0_0 : ByteArray) (a1 : ByteArray) (r1 : Int) (r2 : Option Int) (r3 : ByteArray) (w0 w : World) (hI : IsS85 w0 w g s0_0) (hB : Below w0.heap.size w0 w) (h : strings_Builder_WriteString.f s0_0 a1 = some (r1, r2, r3)) :
  Calls Try.prog 43 #[.pointer (some ⟨g, 0, none⟩), .string a1] w fun e w' => e = .returned (.tuple #[.int .i64 r1, errW r2]) ∧ IsS85 w0 w' g r3 ∧ Below w0.heap.size w0 w' ∧ BKeep w w' g := by
 unfold strings_Builder_WriteString.f at h
 by_cases hc : s0_0.size + a1.size ≤ 140737488355328
 ·rw [if_pos hc] at h
  simp only [Option.some.injEq, Prod.mk.injEq] at h
  obtain ⟨rfl, rfl, rfl⟩ := h
  refine (Go.Proofs.YtdbiokmlgniobaaB.WriteString_calls g (Lib.strCells s0_0) a1 w hI.1 (by rw [Lib.strCells_length]; exact hc)).mono ?_
  rintro e w' ⟨rfl, h1, h2, h3⟩
  refine ⟨rfl, ⟨by rw [Go.Proofs.YtdbiokmlgniobaaB.cells_add]; exact h1, hI.2⟩, hB.trans (h2.mono hI.2), h2.size, h3⟩
 ·rw [if_neg hc] at h
  exact absurd h (by simp)

def strings_Builder_String.f (s0_0 : ByteArray) : Option (ByteArray × ByteArray) := some (s0_0, s0_0)
theorem strings_Builder_String.calls (g : Nat) (s0_0 : ByteArray) (r1 : ByteArray) (r2 : ByteArray) (w0 w : World) (hI : IsS85 w0 w g s0_0) (hB : Below w0.heap.size w0 w) (h : strings_Builder_String.f s0_0 = some (r1, r2)) :
  Calls Try.prog 46 #[.pointer (some ⟨g, 0, none⟩)] w fun e w' => e = .returned (.string r1) ∧ IsS85 w0 w' g r2 ∧ Below w0.heap.size w0 w' ∧ BKeep w w' g := by
 unfold strings_Builder_String.f at h
 simp only [Option.some.injEq, Prod.mk.injEq] at h
 obtain ⟨rfl, rfl⟩ := h
 refine (Go.Proofs.YtdbiokmlgniobaaB.String_calls g s0_0 w hI.1).mono ?_
 rintro e w' ⟨rfl, h1, h2, h3⟩
 exact ⟨rfl, ⟨h1, hI.2⟩, hB.trans (h2.mono hI.2), h2.size, h3⟩

-- NOT PRINTED: function 82 (bytealg_MakeNoZero)

-- NOT PRINTED: function 80 (strings_Builder_grow)

-- NOT PRINTED: function 67 (strings_Builder_Grow)

def joinN (l : List ByteArray) : Nat → ByteArray
 | 0 => ByteArray.empty
 | i + 1 => joinN l i ++ rdOf ByteArray.empty l (i : Int)
theorem joinN_mono (l : List ByteArray) (i : Nat) : ∀ d, (joinN l i).size ≤ (joinN l (i + d)).size
 | 0 => Nat.le_refl _
 | d + 1 => by
  refine Nat.le_trans (joinN_mono l i d) ?_
  show _ ≤ (joinN l (i + d) ++ _).size
  rw [ByteArray.size_append]
  omega
theorem join_lies : Go.Proofs.YtdbiokmlgniobaaD.Lies 85 2 0 := ⟨by decide, by decide, by kernel_rfl⟩
def JF (B b : Nat) (w w' : World) : Prop := (∀ K, K ≤ b → K ≤ B → Below K w w') ∧ w.heap.size ≤ w'.heap.size
def JB (B b : Nat) (s : ByteArray) (w : World) : Prop := ∃ cs : Array Value, cs.size = 2 ∧ Go.Proofs.YtdbiokmlgniobaaD.BAt B b 0 85 cs (Lib.strCells s) w
theorem join_str (B b : Nat) (s t : ByteArray) (w : World) (hs : s.size + t.size ≤ 140737488355328) (h : JB B b s w) (hB : B ≤ w.heap.size) :
  Calls Try.prog 43 #[.pointer (some ⟨b, 0, none⟩), .string t] w fun e w' => (∃ v, e = .returned v) ∧ JB B b (s ++ t) w' ∧ JF B b w w' := by
 obtain ⟨cs, hcs, hA⟩ := h
 refine (Go.Proofs.YtdbiokmlgniobaaD.WriteString_at B b 0 85 cs _ t w (by rw [hcs]; exact join_lies) hA (by rw [Lib.strCells_length]; exact hs) hB).mono ?_
 rintro e w' ⟨rfl, ⟨v', h2⟩, h3, h4, h5, h6⟩
 refine ⟨⟨_, rfl⟩, ⟨(cs.setIfInBounds 0 (.pointer (some ⟨b, 0, none⟩))).setIfInBounds (0 + 1) v', by rw [Array.size_setIfInBounds, Array.size_setIfInBounds, hcs], ?_⟩, h3, h4⟩
 rw [Go.Proofs.YtdbiokmlgniobaaB.cells_add]
 exact h2
theorem join_string (B b : Nat) (s : ByteArray) (w : World) (h : JB B b s w) (hB : B ≤ w.heap.size) :
  Calls Try.prog 46 #[.pointer (some ⟨b, 0, none⟩)] w fun e w' => e = .returned (.string s) ∧ JF B b w w' := by
 obtain ⟨cs, hcs, hA⟩ := h
 refine (Go.Proofs.YtdbiokmlgniobaaD.String_at B b 0 85 cs s w hA hB).mono ?_
 rintro e w' ⟨rfl, h2, h3, h4, h5, h6⟩
 exact ⟨rfl, fun K _ hK => h3 K hK, h4⟩
theorem join_copyNone (W : World) (g n : Nat) : (Builtin.copy_ #[83, 83] 3 #[.slice (some ⟨g, 0, none⟩) 0 n, .slice none 0 0]).run Try.prog W = .ok (goInt 0) W :=
 run_copy_none W 83 83 3 5 _ _ 0 n 0 0 Try.underlying83 (by kernel_rfl) rfl
set_option maxHeartbeats 4000000 in
set_option maxRecDepth 100000 in
theorem join_grow1 (B b n : Nat) (w : World) (hn : n ≤ 1099511627776) (hBb : B ≤ b) (hbk : w.heap[b]? = some (.cells #[.pointer (some ⟨b, 0, none⟩), .slice none 0 0] 85 (0, 0))) (hB : B ≤ w.heap.size) :
  Calls Try.prog 80 #[.pointer (some ⟨b, 0, none⟩), .int .i64 (n : Int)] w fun e w' => e = .returned (.tuple #[]) ∧ Lib.BuilderAt 85 5 B b (.pointer (some ⟨b, 0, none⟩)) [] w' ∧ Below B w w' := by
 obtain ⟨cs, hrun, hle, hmax⟩ := Lib.run_makeNoZero (P := Try.prog) w.drew #[3] 83 5 Try.underlying83 n (by omega)
 have hw : IntKind.i64.wrap (IntKind.i64.wrap 0 + (n : Int)) = n := by
  rw [IntKind.wrap_i64, IntKind.wrap_i64]
  omega
 have hw2 : IntKind.i64.wrap (0 + (n : Int)) = n := by
  rw [IntKind.wrap_i64]
  omega
 have hcall : (callFunc 82 #[.int .i64 (n : Int)]).run Try.prog w.drew = .ok (.value (.slice (some ⟨w.drew.heap.size, 0, none⟩) n cs.size)) (w.drew.drew.drew.alloc (.cells cs 5)) := by
  rw [run_callFunc_extern Try.func82 (by kernel_rfl) (by kernel_rfl) (by kernel_rfl) (e := Extern.BytealgMakeNoZero.makeNoZero #[3] #[83]) (by kernel_rfl), hrun]
  rfl
 have hcall2 : (callFunc 82 #[.int .i64 (IntKind.i64.wrap (IntKind.i64.wrap 0 + (n : Int)))]).run Try.prog w.drew = .ok (.value (.slice (some ⟨w.drew.heap.size, 0, none⟩) n cs.size)) (w.drew.drew.drew.alloc (.cells cs 5)) := by
  rw [hw]; exact hcall
 have hlt : b < w.heap.size := (Array.getElem?_eq_some_iff.1 hbk).1
 have c1 : w.drew.cell? ⟨b, 1, none⟩ = some (.slice none 0 0) := by
  have : w.drew.heap[b]? = _ := hbk
  rw [Lib.cell_of_heap this]; rfl
 have c2 : (w.alloc (.cells cs 5)).cell? ⟨b, 1, none⟩ = some (.slice none 0 0) := by
  have : (w.alloc (.cells cs 5)).heap[b]? = _ := (Lib.alloc_old w _ b hlt).trans hbk
  rw [Lib.cell_of_heap this]; rfl
 have f2 : (w.alloc (.cells cs 5)).frozen? ⟨b, 1, none⟩ = false := Lib.frozen_of_heap ((Lib.alloc_old w _ b hlt).trans hbk) 1
 have hcopy := fun W : World => join_copyNone W w.heap.size cs.size
 clear hw hw2
 go_enter Try.func80, Try.ntmps80
 go_wp2
 have hfin := Lib.grown_fresh (T := 85) (e := 5) (cs := cs) hBb hbk hB (hmax (by unfold maxLen; omega)) (by decide)
 rw [World.setCell_alloc_past _ b 1 _ hlt] at hfin
 go_region
 all_goals (go_wp2; go_end0; exact ⟨rfl, hfin⟩)
set_option maxHeartbeats 4000000 in
set_option maxRecDepth 100000 in
theorem join_grow (B b n : Nat) (w : World) (hn : n ≤ 1099511627776) (hBb : B ≤ b) (hbk : w.heap[b]? = some (.cells #[.pointer none, .slice none 0 0] 85 (0, 0))) (hB : B ≤ w.heap.size) :
  Calls Try.prog 67 #[.pointer (some ⟨b, 0, none⟩), .int .i64 (n : Int)] w fun e w' => (∃ v, e = .returned v) ∧ JB B b ByteArray.empty w' ∧ Below B w w' := by
 have hbk1 : (w.setCell ⟨b, 0, none⟩ (.pointer (some ⟨b, 0, none⟩))).heap[b]? = some (.cells #[.pointer (some ⟨b, 0, none⟩), .slice none 0 0] 85 (0, 0)) := by
  simp [World.setCell, Array.getElem?_modify, hbk]
 have c1 : (w.setCell ⟨b, 0, none⟩ (.pointer (some ⟨b, 0, none⟩))).cell? ⟨b, 1, none⟩ = some (.slice none 0 0) := by rw [Lib.cell_of_heap hbk1]; rfl
 have hb1 : Below B w (w.setCell ⟨b, 0, none⟩ (.pointer (some ⟨b, 0, none⟩))) := (Below.refl B w).setCell (p := ⟨b, 0, none⟩) hBb _
 have hU : Lib.BuilderAt 85 5 B b (.pointer (some ⟨b, 0, none⟩)) [] (w.setCell ⟨b, 0, none⟩ (.pointer (some ⟨b, 0, none⟩))) := ⟨hBb, .slice none 0 0, hbk1, World.ownsRow_nil _ _ _ _, by simp [Value.ownBlock]⟩
 have c1' : (w.setCell ⟨b, 0, none⟩ (.pointer (some ⟨b, 0, none⟩))).drew.cell? ⟨b, 1, none⟩ = some (.slice none 0 0) := c1
 have key : ∀ w', Lib.BuilderAt 85 5 B b (.pointer (some ⟨b, 0, none⟩)) [] w' → JB B b ByteArray.empty w' := fun w' h => by
  obtain ⟨_, v, h1, h2, h3⟩ := h
  exact ⟨_, rfl, h1, _, v, rfl, rfl, .inr rfl, World.ownsRowF_of h2, h3⟩
 go_enter Try.func67, Try.ntmps67
 go_wp2_with (go_at_call 59; refine (Go.Proofs.YtdbiokmlgniobaaD.copyCheck_fresh b 0 2 85 w join_lies (by rw [Lib.cell_of_heap hbk]; rfl) (by simp [World.shape?, hbk]) (Lib.frozen_of_heap hbk 0)).mono ?_; rintro e w' ⟨rfl, rfl⟩)
 go_region
 all_goals go_wp2_with (go_at_call 80; refine (join_grow1 B b n (w.setCell ⟨b, 0, none⟩ (.pointer (some ⟨b, 0, none⟩))).drew hn hBb hbk1 (by simpa [World.setCell, World.drew, -World.drew_eq] using hB)).mono ?_; rintro e w' ⟨rfl, h1, h2⟩)
 all_goals first
  | (go_end0; exact ⟨⟨_, rfl⟩, key _ h1, hb1.drew.trans h2⟩)
  | (go_end0; exact ⟨⟨_, rfl⟩, key _ hU.drew, hb1.drew⟩)
theorem join_readN {ad : Addr} {l : List ByteArray} {w w' : World} (hr : Kd.C Kd.string w (some ad) l.length l) (hb : Below w.heap.size w w') (i : Nat) (h : i < l.length) : w'.cell? (ad.add i) = some (.string (rdOf ByteArray.empty l (i : Int))) := by
 obtain ⟨ad', e1, hx⟩ := Kd.at_string (Kd.Heap.C Kd.heap_string (fun k hk => hb.block k hk) hr) (i : Int) (by omega) (by omega)
 cases e1
 rw [Int.toNat_natCast] at hx
 exact hx
theorem join_read0 {ad : Addr} {l : List ByteArray} {w w' : World} (hr : Kd.C Kd.string w (some ad) l.length l) (hb : Below w.heap.size w w') (h : 0 < l.length) : w'.cell? ad = some (.string (rdOf ByteArray.empty l 0)) := by
 have := join_readN hr hb 0 h
 rw [Addr.add_zero'] at this
 exact this
theorem join_readM {ad : Addr} {l : List ByteArray} {w w' : World} (hr : Kd.C Kd.string w (some ad) l.length l) (hb : Below w.heap.size w w') (i : Nat) (h : i + 1 < l.length) : w'.cell? ⟨ad.block, ad.off + 1 + i, none⟩ = some (.string (rdOf ByteArray.empty l ((i + 1 : Nat) : Int))) := by
 have hx := join_readN hr hb (i + 1) h
 have e : ad.add (i + 1) = ⟨ad.block, ad.off + 1 + i, none⟩ := by
  unfold Addr.add
  simp
  omega
 rw [e] at hx
 exact hx
theorem join_ci {l : List ByteArray} (h : (joinN l l.length).size ≤ 1099511627776) (i : Nat) (hi : i < l.length) : (joinN l i).size + (rdOf ByteArray.empty l (i : Int)).size ≤ 140737488355328 := by
 have h1 := joinN_mono l (i + 1) (l.length - (i + 1))
 rw [Nat.add_sub_cancel' hi] at h1
 have h2 : (joinN l (i + 1)).size = (joinN l i).size + (rdOf ByteArray.empty l (i : Int)).size := ByteArray.size_append
 omega
theorem join_c1 {l : List ByteArray} (h : (joinN l l.length).size ≤ 1099511627776) (hi : 0 < l.length) : ByteArray.empty.size + (rdOf ByteArray.empty l 0).size ≤ 140737488355328 := join_ci h 0 hi
theorem mea_join {i n : Nat} {x : Int} (h : i < n) (hx : x = ((i + 1 : Nat) : Int)) : n - (intOf (.int .i64 x)).toNat < n - (intOf (.int .i64 (i : Int))).toNat := by
 subst hx
 show n - (((i + 1 : Nat) : Int)).toNat < n - ((i : Int)).toNat
 omega
def strings_Join.f (l : List ByteArray) (sep : ByteArray) : Option ByteArray := if sep.size = 0 ∧ (joinN l l.length).size ≤ 1099511627776 ∧ l.length ≤ 4611686018427387904 then some (joinN l l.length) else none
set_option maxHeartbeats 8000000 in
set_option maxRecDepth 100000 in
theorem join_few (A : Option Addr) (c : Nat) (l : List ByteArray) (w : World) (hr : Kd.C Kd.string w A l.length l) (hl : l.length ≤ c) (h2 : l.length < 2) :
  Calls Try.prog 55 #[.slice A l.length c, .string ⟨#[]⟩] w fun e w' => e = .returned (.string (joinN l l.length)) ∧ Below w.heap.size w w' := by
 by_cases h0 : l.length = 0
 ·rw [h0]
  go_enter Try.func55, Try.ntmps55
  go_wp2
  go_ret
  exact ⟨rfl, Below.refl _ _⟩
 ·have h1 : l.length = 1 := by omega
  obtain ⟨ad, e1, hx⟩ := Kd.at_string hr 0 (by omega) (by omega)
  subst e1
  have e2 : joinN l l.length = rdOf ByteArray.empty l 0 := by rw [h1]; exact ByteArray.empty_append
  rw [e2, h1]
  generalize rdOf ByteArray.empty l 0 = s at hx ⊢
  rw [show ((0 : Int)).toNat = 0 from rfl, Addr.add_zero'] at hx
  clear hr hl h2 h0 h1 e2
  go_enter Try.func55, Try.ntmps55
  go_wp2
  go_ret
  exact ⟨rfl, Below.refl _ _⟩
set_option maxHeartbeats 8000000 in
set_option maxRecDepth 100000 in
theorem join_many (A : Option Addr) (c : Nat) (l : List ByteArray) (w : World) (hr : Kd.C Kd.string w A l.length l) (hl : l.length ≤ c) (h2 : 2 ≤ l.length) (hm : l.length ≤ 9223372036854775807) (hs : (joinN l l.length).size ≤ 1099511627776) :
  Calls Try.prog 55 #[.slice A l.length c, .string ⟨#[]⟩] w fun e w' => e = .returned (.string (joinN l l.length)) ∧ Below w.heap.size w w' := by
 obtain ⟨ad, e0, hx0⟩ := Kd.at_string hr 0 (by omega) (by omega)
 subst e0
 rw [show ((0 : Int)).toNat = 0 from rfl, Addr.add_zero'] at hx0
 have t0 : ((l.length : Int) == 0) = false := beq_eq_false_iff_ne.mpr (by omega)
 have t1 : ((l.length : Int) == 1) = false := beq_eq_false_iff_ne.mpr (by omega)
 have t2 : ¬ l = [] := fun e => by rw [e] at h2; exact absurd h2 (by decide)
 have t3 : ¬ l.length = 1 := by omega
 have HR := Aside0.mk hr
 have HL := Aside0.mk hl
 have HS := Aside0.mk hs
 have HM := Aside0.mk hm
 have H2 := Aside0.mk h2
 have HX0 := Aside0.mk hx0
 clear hr hl hs hm h2 hx0
 go_enter Try.func55, Try.ntmps55
 go_wp2
 go_loop [5, 41] (fun n v => ∃ i : Nat, v = .int .i64 (i : Int) ∧ i ≤ l.length ∧ n = .int .i64 ((joinN l i).size : Int)) (fun _ v => l.length - (intOf v).toNat)
 case atStart => exact ⟨0, rfl, Nat.zero_le _, rfl⟩
 case round =>
  obtain ⟨i, rfl, hi, rfl⟩ := hrel
  by_cases hlt : i < l.length
  ·have p0 : (0 : Int) ≤ (i : Int) := by omega
   have q0 : (i : Int) < (l.length : Int) := by omega
   obtain ⟨ad', e1, hx⟩ := Kd.at_string HR.out (i : Int) p0 q0
   cases e1
   rw [Int.toNat_natCast] at hx
   have hz : (joinN l (i + 1)).size = (joinN l i).size + (rdOf ByteArray.empty l (i : Int)).size := by
    show (joinN l i ++ _).size = _
    rw [ByteArray.size_append]
   have hz2 := joinN_mono l (i + 1) (l.length - (i + 1))
   rw [Nat.add_sub_cancel' hlt] at hz2
   have hs := HS.out
   obtain ⟨s, hse⟩ : ∃ s, rdOf ByteArray.empty l (i : Int) = s := ⟨_, rfl⟩
   rw [hse] at hx hz
   obtain ⟨n, hn⟩ : ∃ n, (joinN l i).size = n := ⟨_, rfl⟩
   rw [hn] at hz ⊢
   have b0 : decide ((i : Int) < (l.length : Int)) = true := decide_eq_true q0
   have b1 : decide (i < l.length) = true := decide_eq_true hlt
   have hn1 : n ≤ 1099511627776 := by omega
   have hs1 : s.size ≤ 1099511627776 := by omega
   have hw : wrap64 ((n : Int) + (s.size : Int)) = (((joinN l (i + 1)).size : Nat) : Int) := by rw [hz]; unfold wrap64; omega
   have hw2 : (n : Int) + (s.size : Int) = (((joinN l (i + 1)).size : Nat) : Int) := by rw [hz]; omega
   have hi1 : wrap64 ((i : Int) + 1) = ((i + 1 : Nat) : Int) := by have := HM.out; unfold wrap64; omega
   have hov : decide (9223372036854775807 - (n : Int) < (s.size : Int)) = false := decide_eq_false (by omega)
   have hi2 : (i : Int) ≤ 4611686018427387904 ∨ True := .inr trivial
   have HI1 := Aside0.mk hi1
   have HW1 := Aside0.mk hw
   have HW2 := Aside0.mk hw2
   replace p0 := eq_true p0
   replace q0 := eq_true q0
   clear hz hz2 hs hse hn hw hw2 hi1 hi2
   go_wp2
   go_round
   case rel => exact ⟨i + 1, by first | rfl | (rw [HI1.out]) | go_num, hlt, by first | rfl | (rw [HW1.out]) | (rw [HW2.out])⟩
   case measure => exact mea_join hlt HI1.out
  ·obtain rfl : i = l.length := by omega
   have b0 : decide ((l.length : Int) < (l.length : Int)) = false := decide_eq_false (by omega)
   obtain ⟨N, hN⟩ : ∃ n, (joinN l l.length).size = n := ⟨_, rfl⟩
   have HN := Aside0.mk hN
   rw [hN]
   clear hN
   have z0 : 0 < l.length := by have := H2.out; omega
   have z1 : 1 ≤ l.length := z0
   have z2 : (1 : Int) ≤ (l.length : Int) := by omega
   have z3 : l.length ≤ c := HL.out
   have z4 : ¬ c = 1 := by have := H2.out; omega
   have z5 : (c == 1) = false := beq_eq_false_iff_ne.mpr z4
   have z6 : 1 ≤ c := by omega
   go_wp2_with (first | ((with_reducible refine gate_dst (N := 8) rfl ?_); refine box_event ?hg (N := 8) ?hd (cs := #[.pointer none, .slice none 0 0]) (t := 85) ?hr ?_; (case hd => rfl); (case hg => rfl); (case hr => first | (go_simp; done) | (go_simp; rfl)); intro gb hg w1 hbox hb; have GB := Aside0.mk hg; have BX := Aside0.mk hbox; have HB1 := Aside0.mk hb; clear hb hbox hg) | (go_at_call 67; (with_reducible refine (join_grow w.heap.size gb N _ (by have := HS.out; have := HN.out; omega) (Nat.le_of_eq GB.out.symm) BX.out HB1.out.size).mono ?_); rintro e w2 ⟨⟨v, rfl⟩, h1, h2⟩; have HJ := Aside0.mk h1; have HB2 := Aside0.mk (HB1.out.trans h2); clear h1 h2 HB1 BX; have hx2 := join_read0 HR.out HB2.out (by have := H2.out; omega)) | (go_at_call 43; (with_reducible refine (join_str w.heap.size gb ByteArray.empty (rdOf ByteArray.empty l 0) _ (join_c1 HS.out (by have := H2.out; omega)) HJ.out HB2.out.size).mono ?_); rintro e w3 ⟨⟨v3, rfl⟩, h1, h2⟩; have HJ3 := Aside0.mk (show JB w.heap.size gb (joinN l 1) w3 from h1); have HB3 := Aside0.mk (HB2.out.trans (h2.1 _ (Nat.le_of_eq GB.out.symm) (Nat.le_refl _))); clear h1 h2 HJ HB2 hx2))
   obtain ⟨wi, hwi⟩ : ∃ wi : World, wi = w3 := ⟨_, rfl⟩
   rw [← hwi] at HJ3 HB3 ⊢
   clear hwi z0 z1 z2 z3 z4 z5 z6 b0
   obtain ⟨M, hM⟩ : ∃ m, l.length = m + 1 := ⟨l.length - 1, by have := H2.out; omega⟩
   have HM1 := Aside0.mk hM
   have e1 : l.length - 1 = M := by omega
   rw [e1]
   clear hM e1
   go_loopw [65] (fun v w' => ∃ i : Nat, v = .int .i64 (i : Int) ∧ i ≤ M ∧ Aside0 (JB w.heap.size gb (joinN l (i + 1)) w') ∧ Aside0 (Below w.heap.size w w')) (fun v _ => M - (intOf v).toNat)
   case atStart => exact ⟨0, rfl, Nat.zero_le _, HJ3, HB3⟩
   case round =>
    obtain ⟨i, rfl, hi, HJ, HB⟩ := hrel
    clear HJ3 HB3
    by_cases hilt : i < M
    ·have b0 : decide ((i : Int) < (M : Int)) = true := decide_eq_true (by omega)
     have b1 : decide (i < M) = true := decide_eq_true hilt
     have p0 := eq_true (show (0 : Int) ≤ (i : Int) by omega)
     have q0 := eq_true (show (i : Int) < (M : Int) by omega)
     have hil : i + 1 < l.length := by rw [HM1.out]; omega
     have hx := join_readM HR.out HB.out i hil
     have hc := Aside0.mk (join_ci HS.out (i + 1) hil)
     have hc0 := Aside0.mk (show (joinN l (i + 1)).size + (⟨#[]⟩ : ByteArray).size ≤ 140737488355328 by have := hc.out; show _ + 0 ≤ _; omega)
     have HI1 := Aside0.mk (show wrap64 ((i : Int) + 1) = ((i + 1 : Nat) : Int) by have := HM.out; have := HM1.out; unfold wrap64; omega)
     have e2 := Aside0.mk (show joinN l (i + 1) ++ (⟨#[]⟩ : ByteArray) = joinN l (i + 1) from ByteArray.append_empty)
     generalize hse : rdOf ByteArray.empty l ((i + 1 : Nat) : Int) = s at hx hc
     have HSE := Aside0.mk hse
     generalize hpe : joinN l (i + 1) = P at HJ hc hc0 e2
     have HPE := Aside0.mk hpe
     clear hse hpe hil
     go_wp2_with (first | (go_at_call 43; (with_reducible refine (join_str w.heap.size gb P ⟨#[]⟩ _ hc0.out HJ.out HB.out.size).mono ?_); rintro e w4 ⟨⟨v4, rfl⟩, h1, h2⟩; rw [e2.out] at h1; have HJ1 := Aside0.mk h1; have HB1 := Aside0.mk (HB.out.trans (h2.1 _ (Nat.le_of_eq GB.out.symm) (Nat.le_refl _))); clear h1 h2 HJ HB hx) | (go_at_call 43; (with_reducible refine (join_str w.heap.size gb P s _ hc.out HJ1.out HB1.out.size).mono ?_); rintro e w5 ⟨⟨v5, rfl⟩, h1, h2⟩; have HJ2 := Aside0.mk h1; have HB2 := Aside0.mk (HB1.out.trans (h2.1 _ (Nat.le_of_eq GB.out.symm) (Nat.le_refl _))); clear h1 h2 HJ1 HB1))
     go_roundw
     case rel => exact ⟨i + 1, by first | rfl | (rw [HI1.out]) | go_num, hilt, ⟨by have := HJ2.out; rw [← HPE.out, ← HSE.out] at this; exact this⟩, HB2⟩
     case measure => exact mea_join hilt HI1.out
    ·obtain rfl : i = M := by omega
     have b0 : decide ((i : Int) < (i : Int)) = false := decide_eq_false (by omega)
     have e1 := Aside0.mk (show joinN l (i + 1) = joinN l l.length by rw [HM1.out])
     generalize joinN l (i + 1) = P at HJ e1
     go_wp2_with (go_at_call 46; (with_reducible refine (join_string w.heap.size gb P _ HJ.out HB.out.size).mono ?_); rintro e w4 ⟨rfl, h1⟩; have HF := Aside0.mk h1; clear h1)
     go_ret
     exact ⟨by rw [e1.out]; rfl, HB.out.trans (HF.out.1 _ (Nat.le_of_eq GB.out.symm) (Nat.le_refl _))⟩
theorem strings_Join.calls (A0 : Option Addr) (c0 : Nat) (l0 : List ByteArray) (a1 : ByteArray) (r : ByteArray) (w : World) (hr0 : Kd.C Kd.string w A0 l0.length l0) (hc0 : l0.length ≤ c0) (h : strings_Join.f l0 a1 = some r) :
  Calls Try.prog 55 #[.slice A0 l0.length c0, .string a1] w fun e w' => e = .returned (.string r) ∧ Below w.heap.size w w' := by
 unfold strings_Join.f at h
 by_cases hc : a1.size = 0 ∧ (joinN l0 l0.length).size ≤ 1099511627776 ∧ l0.length ≤ 4611686018427387904
 ·rw [if_pos hc] at h
  obtain rfl := Option.some.inj h
  obtain rfl : a1 = ⟨#[]⟩ := ByteArray.size_eq_zero_iff.1 hc.1
  by_cases h2 : l0.length < 2
  ·exact join_few A0 c0 l0 w hr0 hc0 h2
  ·exact join_many A0 c0 l0 w hr0 hc0 (by omega) (by omega) hc.2.1
 ·rw [if_neg hc] at h
  cases h

end Go.Proofs.Ytdbiokmlgniobaa.PL22

namespace Go.Proofs.Ytdbiokmlgniobaa.PL22
open Go.RowKit Go.Proofs.YtdbiokmlgniobaaW.PrintWords Go.Proofs.YtdbiokmlgniobaaW.PrintLast Go.Proofs.YtdbiokmlgniobaaW.PrintMore
attribute [local go_sem] max2_int min2_int max_two min_two max_three min_three max_four min_four   -- for this text's walks alone
set_option linter.unusedVariables false
set_option linter.unusedSimpArgs false

def bands_Join.l0 : Nat → List ByteArray → Int → Int → List ByteArray → Int → List ByteArray → Int → Int → Option (Int × Int × ByteArray × Int)
 | 0, _, _, _, _, _, _, _, _ => none
 | k + 1, x1, x6, x7, x8, x10, x34, x35, x36 => if x36 < x35 then (if 0 ≤ x36 then (if x36 < (x34.length : Int) then ((bands_band.f x6).bind fun t129 => (if ((rdOf ByteArray.empty x34 x36).size : Int) = (mn t129 x10) then ((sha_Sum.f k (rdOf ByteArray.empty x34 x36)).bind fun t130 => (if x36 < (x8.length : Int) then (if t130.toList = (rdOf ByteArray.empty x8 x36).toList then (bands_Join.l0 k x1 x6 x7 x8 (wrap64 (x10 - ((rdOf ByteArray.empty x34 x36).size : Int))) x34 x35 (wrap64 (x36 + 1))) else (some (0, 0, (⟨#[]⟩ : ByteArray), 43))) else (none))) else (some (0, 0, (⟨#[]⟩ : ByteArray), 43)))) else (none)) else (none)) else ((strings_Join.f x1 (⟨#[]⟩ : ByteArray)).bind fun t127 => (some (x6, x7, t127, 0)))
def bands_Join.f (k : Nat) (a0 : ByteArray) (l1 : List ByteArray) : Option (Int × Int × ByteArray × Int) := (bands_Read.f k a0).bind fun bt121 => (if bt121.2.2.2 = 0 then (if (l1.length : Int) = (bt121.2.2.1.length : Int) then (bands_Join.l0 k l1 bt121.1 bt121.2.1 bt121.2.2.1 (wrap64 ((wrap64 (8 * bt121.1)) * bt121.2.1)) l1 (l1.length : Int) 0) else (some (0, 0, (⟨#[]⟩ : ByteArray), 43))) else (some (0, 0, (⟨#[]⟩ : ByteArray), bt121.2.2.2)))
def bands_Join.T10 : Bool × List (List Nat × List Nat) := (true, [([], []), ([0], [0]), ([], []), ([2], [2]), ([], []), ([3, 4], [3, 4]), ([1, 5], [1, 5]), ([6, 3], [6]), ([7], [7]), ([8, 7, 7], [7, 8]), ([7], [7]), ([7], [7]), ([10, 11, 7], [7, 10, 11]), ([12, 7], [7, 12]), ([9, 13, 7], [7, 9, 13]), ([7, 14], [7, 14])])
def bands_Join.B10 : List Nat := [0, 1, 0, 4, 0, 28, 63, 127, 255, 511, 255, 255, 3327, 7423, 16383, 32767]
theorem bands_Join.tab10 : rtab .any (opsOf Try.f34 10) = bands_Join.T10 := by kernel_rfl
theorem bands_Join.bits10 : waitsOk bands_Join.T10.2 bands_Join.B10 = true := by kernel_rfl
set_option maxHeartbeats 40000000 in
set_option maxRecDepth 100000 in
theorem bands_Join.calls (k : Nat) (a0 : ByteArray) (A1 : Option Addr) (c1 : Nat) (l1 : List ByteArray) (r1 : Int) (r2 : Int) (r3 : ByteArray) (r4 : Int) (w : World) (hr1 : Kd.C Kd.string w A1 l1.length l1) (hc1 : l1.length ≤ c1) (h : bands_Join.f k a0 l1 = some (r1, r2, r3, r4)) :
  Calls Try.prog 34 #[.string a0, .slice A1 l1.length c1] w fun e w' => e = .returned (.tuple #[.agg #[.int .i64 r1, .int .i64 r2, .string r3], .int .i64 r4]) ∧ Below w.heap.size w w' := by
 have hu57 := Try.underlying57
 have HR1 := Aside0.mk hr1
 have HC1 := Aside0.mk hc1
 clear hr1 hc1
 have HB := Aside0.mk (Below.refl w.heap.size w)
 have H : ((bands_Read.f k a0).bind fun bt121 => (if bt121.2.2.2 = 0 then (if (l1.length : Int) = (bt121.2.2.1.length : Int) then (bands_Join.l0 k l1 bt121.1 bt121.2.1 bt121.2.2.1 (wrap64 ((wrap64 (8 * bt121.1)) * bt121.2.1)) l1 (l1.length : Int) 0) else (some (0, 0, (⟨#[]⟩ : ByteArray), 43))) else (some (0, 0, (⟨#[]⟩ : ByteArray), bt121.2.2.2)))) = some (r1, r2, r3, r4) := h
 clear h
 replace H := Option.bind_eq_some_iff.mp H
 obtain ⟨⟨t121, t122, t123, t124⟩, A30, H⟩ := H
 replace H : (if t124 = 0 then (if (l1.length : Int) = (t123.length : Int) then (bands_Join.l0 k l1 t121 t122 t123 (wrap64 ((wrap64 (8 * t121)) * t122)) l1 (l1.length : Int) 0) else (some (0, 0, (⟨#[]⟩ : ByteArray), 43))) else (some (0, 0, (⟨#[]⟩ : ByteArray), t124))) = some (r1, r2, r3, r4) := H
 have A3 := Aside0.mk A30
 clear A30
 by_cases c4 : t124 = 0
 ·rw [if_pos c4] at H
  have c4b0 : (t124 == 0) = true := beq_iff_eq.mpr c4
  have c4b1 : (t124 != 0) = false := bne_eq_false_iff_eq.mpr c4
  clear c4
  by_cases c5 : (l1.length : Int) = (t123.length : Int)
  ·rw [if_pos c5] at H
   have c5b0 : ((l1.length : Int) == (t123.length : Int)) = true := beq_iff_eq.mpr c5
   have c5b1 : ((l1.length : Int) != (t123.length : Int)) = false := bne_eq_false_iff_eq.mpr c5
   have c5b2 : (l1.length == t123.length) = true := by first | simpa using c5 | (simp at c5 ⊢; omega)
   clear c5
   have H' := Aside0.mk H
   clear H
   go_enter Try.func34, Try.ntmps34
   go_wp2_with (first | ((with_reducible refine gate_dst (N := 4) rfl ?_); refine box_event ?hg (N := 4) ?hd (cs := #[.int .i64 0, .int .i64 0, .string (⟨#[]⟩ : ByteArray)]) (t := 57) ?hr ?_; (case hd => rfl); (case hg => rfl); (case hr => first | (go_simp; done) | (go_simp; rfl)); intro gb120 hg w6 hbox hb; have n0_ := Aside0.mk (below_step (hz HB) hb); have n1_ := Aside0.mk (hbox); have n2_ := Aside0.mk ((by rw [hg]; exact (below_size (hz HB)) : w.heap.size ≤ gb120)); have n3_ := Aside0.mk ((by rw [hg]; exact (below_size (hz HB)) : w.heap.size ≤ gb120)); clear HB; have HB := n0_; have BK120 := n1_; have GW120 := n2_; have GE120 := n3_; clear n0_ n1_ n2_ n3_; clear hb hbox hg) | ((with_reducible refine gate_callee (f := 54) rfl ?_); refine gz 15 Try.func54 #[.string a0] ?_; (with_reducible refine (bands_Read.calls k a0 t121 t122 t123 t124 _ A3.out).mono ?_); rintro e w7 ⟨v125, rfl, ho0, hb⟩; refine ⟨_, rfl, ?_⟩; have n0_ := Aside0.mk (Kd.R_lower ho0 (below_size (hz HB))); have n1_ := Aside0.mk (blk_below (g := gb120) (o := .cells #[.int .i64 0, .int .i64 0, .string (⟨#[]⟩ : ByteArray)] 57 (0, 0)) (kz BK120) hb); have n2_ := Aside0.mk (below_step (hz HB) hb); clear BK120; clear HB; have HO126 := n0_; have BK120 := n1_; have HB := n2_; clear n0_ n1_ n2_; (try clear hb); (try clear hb2); (try clear hk); (try clear hi); (try clear ho0); obtain ⟨Ao8, co8, eo8⟩ := Kd.R_slice HO126.out; subst eo8))
   go_loopg [10, 36] k (fun kq v10 v36 w' => ∃ (x10_1 : Int) (x36_1 : Int) (x121000_1 : Int) (x121001_1 : Int) (x121002_1 : ByteArray), v10 = .int .i64 x10_1 ∧ v36 = .int .i64 x36_1 ∧ Aside0 (bands_Join.l0 kq l1 t121 t122 t123 x10_1 l1 (l1.length : Int) x36_1 = some (r1, r2, r3, r4)) ∧ Aside0 (kq ≤ k) ∧ Aside0 (Kd.R Kd.string 9 w' w.heap.size (fun _ => True) (.slice Ao8 t123.length co8) t123) ∧ Aside0 (w'.heap[gb120]? = some (.cells #[.int .i64 x121000_1, .int .i64 x121001_1, .string x121002_1] 57 (0, 0))) ∧ Aside0 (Below w.heap.size w w'))
   case atStart => exact ⟨(wrap64 ((wrap64 (8 * t121)) * t122)), (0), (0), (0), ((⟨#[]⟩ : ByteArray)), (by first | rfl | (simp; done) | (simp [*]; done)), (by first | rfl | (simp; done) | (simp [*]; done)), H', ⟨Nat.le_refl _⟩, ⟨oz HO126⟩, ⟨kz BK120⟩, ⟨hz HB⟩⟩
   case round =>
    clear H'
    try clear c4
    try clear c4b0
    try clear c4b1
    try clear c5
    try clear c5b0
    try clear c5b1
    try clear c5b2
    obtain ⟨x10_1, x36_1, x121000_1, x121001_1, x121002_1, rfl, rfl, HA, HK1, HO_8, BK120, HB⟩ := hrel
    cases gk with
    | zero => exact absurd HA.out (by simp [bands_Join.l0])
    | succ k1 =>
     have H := HA.out
     clear HA
     simp only [bands_Join.l0] at H
     by_cases c9 : x36_1 < (l1.length : Int)
     ·rw [if_pos c9] at H
      have c9b0 : decide (x36_1 < (l1.length : Int)) = true := decide_eq_true c9
      clear c9
      by_cases c10 : 0 ≤ x36_1
      ·rw [if_pos c10] at H
       have c10b0 : decide (0 ≤ x36_1) = true := decide_eq_true c10
       clear c10
       by_cases c11 : x36_1 < (l1.length : Int)
       ·rw [if_pos c11] at H
        have c11b0 : decide (x36_1 < (l1.length : Int)) = true := decide_eq_true c11
        clear c11
        replace H := Option.bind_eq_some_iff.mp H
        obtain ⟨t129, A120, H⟩ := H
        replace H : (if ((rdOf ByteArray.empty l1 x36_1).size : Int) = (mn t129 x10_1) then ((sha_Sum.f k1 (rdOf ByteArray.empty l1 x36_1)).bind fun t130 => (if x36_1 < (t123.length : Int) then (if t130.toList = (rdOf ByteArray.empty t123 x36_1).toList then (bands_Join.l0 k1 l1 t121 t122 t123 (wrap64 (x10_1 - ((rdOf ByteArray.empty l1 x36_1).size : Int))) l1 (l1.length : Int) (wrap64 (x36_1 + 1))) else (some (0, 0, (⟨#[]⟩ : ByteArray), 43))) else (none))) else (some (0, 0, (⟨#[]⟩ : ByteArray), 43))) = some (r1, r2, r3, r4) := H
        have A12 := Aside0.mk A120
        clear A120
        obtain ⟨ji13, hji13⟩ : ∃ j_ : Int, (mn t129 x10_1) = j_ := ⟨_, rfl⟩
        replace H : (if ((rdOf ByteArray.empty l1 x36_1).size : Int) = (ji13) then ((sha_Sum.f k1 (rdOf ByteArray.empty l1 x36_1)).bind fun t130 => (if x36_1 < (t123.length : Int) then (if t130.toList = (rdOf ByteArray.empty t123 x36_1).toList then (bands_Join.l0 k1 l1 t121 t122 t123 (wrap64 (x10_1 - ((rdOf ByteArray.empty l1 x36_1).size : Int))) l1 (l1.length : Int) (wrap64 (x36_1 + 1))) else (some (0, 0, (⟨#[]⟩ : ByteArray), 43))) else (none))) else (some (0, 0, (⟨#[]⟩ : ByteArray), 43))) = some (r1, r2, r3, r4) := by first | (rw [hji13] at H; exact H) | (simp only [hji13] at H ⊢; exact H)
        (try rw [hji13] at A12)
        have hji13_ : (if x10_1 < t129 then x10_1 else t129) = ji13 := hji13
        by_cases c14 : ((rdOf ByteArray.empty l1 x36_1).size : Int) = (ji13)
        ·rw [if_pos c14] at H
         have c14b0 : (((rdOf ByteArray.empty l1 x36_1).size : Int) == (ji13)) = true := beq_iff_eq.mpr c14
         have c14b1 : (((rdOf ByteArray.empty l1 x36_1).size : Int) != (ji13)) = false := bne_eq_false_iff_eq.mpr c14
         clear c14
         replace H := Option.bind_eq_some_iff.mp H
         obtain ⟨t130, A150, H⟩ := H
         replace H : (if x36_1 < (t123.length : Int) then (if t130.toList = (rdOf ByteArray.empty t123 x36_1).toList then (bands_Join.l0 k1 l1 t121 t122 t123 (wrap64 (x10_1 - ((rdOf ByteArray.empty l1 x36_1).size : Int))) l1 (l1.length : Int) (wrap64 (x36_1 + 1))) else (some (0, 0, (⟨#[]⟩ : ByteArray), 43))) else (none)) = some (r1, r2, r3, r4) := H
         have A15 := Aside0.mk A150
         clear A150
         by_cases c16 : x36_1 < (t123.length : Int)
         ·rw [if_pos c16] at H
          have c16b0 : decide (x36_1 < (t123.length : Int)) = true := decide_eq_true c16
          clear c16
          by_cases c17 : t130.toList = (rdOf ByteArray.empty t123 x36_1).toList
          ·rw [if_pos c17] at H
           have c17b0 : (t130.toList == (rdOf ByteArray.empty t123 x36_1).toList) = true := beq_iff_eq.mpr c17
           have c17b1 : (t130.toList != (rdOf ByteArray.empty t123 x36_1).toList) = false := bne_eq_false_iff_eq.mpr c17
           clear c17
           have H' := Aside0.mk H
           clear H
           have p128 : 0 ≤ (x36_1 : Int) := of_decide_eq_true (by first | (with_reducible assumption) | assumption)
           have q128 : x36_1 < (l1.length : Int) := of_decide_eq_true (by first | (with_reducible assumption) | assumption)
           obtain ⟨ad128, e128, hx128_0⟩ := Kd.at_string HR1.out x36_1 p128 q128
           cases e128
           replace hx128_0 := (HB.out.cell (World.block_lt_of_cell? w _ hx128_0)).trans hx128_0
           replace p128 := eq_true p128
           replace q128 := eq_true q128
           try go_wp2
           have n0_ := Aside0.mk (Kd.R_drew HO_8.out)
           have n1_ := Aside0.mk (blk_drew BK120.out)
           have n2_ := Aside0.mk (below_drew1 HB.out)
           clear HO_8
           clear BK120
           clear HB
           have HO_8 := n0_
           have BK120 := n1_
           have HB := n2_
           clear n0_ n1_ n2_
           have p131 : 0 ≤ (x36_1 : Int) := of_decide_eq_true (by first | (with_reducible assumption) | assumption)
           have q131 : x36_1 < (t123.length : Int) := of_decide_eq_true (by first | (with_reducible assumption) | assumption)
           obtain ⟨ad131, e131, hx131_0⟩ := Kd.at_string (Kd.R_reads' HO_8.out).2.2 x36_1 p131 q131
           cases e131
           replace p131 := eq_true p131
           replace q131 := eq_true q131
           refine start_ (n := 16) (S := fun w' => w'.cell? (ad131.add (x36_1).toNat) = some (.string (rdOf ByteArray.empty t123 x36_1))) (ds := []) (bm 16 0) (by kernel_rfl) rfl rfl (hx131_0) (fun hHeld => ?_); refine with_tabW bands_Join.tab10 bands_Join.bits10 (fun HT_ HW_ => ?_)
           generalize wr.drew = w18 at HO_8 BK120 HB hx131_0 hHeld ⊢
           refine zp 0 41 (bm 16 1) ?_
           refine zp 1 42 (bm 16 3) ?_
           refine zp 2 43 (bm 16 7) ?_
           refine zp 4 45 (bm 16 23) ?_
           refine one_ (i := 3) (N := some 44) (bm 16 31) rfl rfl (one_of HT_.out (by kernel_rfl)) (by decide) (fun K hK => ?_)
           refine goes_ Try.func48 (by kernel_rfl) rfl #[.int .i64 t121] (by rfl) rfl rfl (by (try simp only [List.map_toArray, List.map_cons, List.map_nil]); first | done | rfl | (simp only [List.length_drop, List.length_take]; rfl) | (simp only [ByteArray.size_extract, Nat.min_self]; done) | (simp only [ByteArray.size_extract, Nat.min_self]; rfl)) ?_
           with_reducible refine (bands_band.calls t121 t129 _ A12.out).mono ?_
           rintro e w' ⟨rfl, ⟨nd, rfl⟩⟩
           refine ⟨_, rfl, ?_⟩
           refine hK.out _ _ (hHeld) (fun hHeld => ?_)
           clear hK K
           refine norm_ (a' := ?_) ?_ ?_
           rotate_left
           ·show Act.put _ (some 44) _ = _
            simp only [Act.put, zq1, zq2, zq3, i64_w, i32_w]
            rfl
           refine zp 5 46 (bm 16 63) ?_
           refine zp 6 47 (bm 16 127) ?_
           refine zp 7 48 (bm 16 255) ?_
           refine zp 8 49 (bm 16 511) ?_
           refine zp 10 51 (bm 16 1535) ?_
           refine zp 11 52 (bm 16 3583) ?_
           refine zp 12 53 (bm 16 7679) ?_
           refine zt 13 54 (bm 16 15871) rfl (by intro w' s0; go_simp; with_reducible rfl) ?_
           refine one_ (i := 9) (N := some 50) (bm 16 16383) rfl rfl (one_of HT_.out (by kernel_rfl)) (by decide) (fun K hK => ?_)
           refine goes_ Try.func45 (by kernel_rfl) rfl #[.string (rdOf ByteArray.empty l1 x36_1)] (by rfl) rfl rfl (by (try simp only [List.map_toArray, List.map_cons, List.map_nil]); first | done | rfl | (simp only [List.length_drop, List.length_take]; rfl) | (simp only [ByteArray.size_extract, Nat.min_self]; done) | (simp only [ByteArray.size_extract, Nat.min_self]; rfl)) ?_
           with_reducible refine (sha_Sum.calls k1 (rdOf ByteArray.empty l1 x36_1) t130 _ A15.out).mono ?_
           rintro e w19 ⟨rfl, hb⟩
           have HS0_ := (hb.cell (World.block_lt_of_cell? _ _ (hHeld))).trans (hHeld)
           refine ⟨_, rfl, ?_⟩
           have n0_ := Aside0.mk (Kd.R_below (oz HO_8) hb)
           have n1_ := Aside0.mk (blk_below (g := gb120) (o := .cells #[.int .i64 x121000_1, .int .i64 x121001_1, .string x121002_1] 57 (0, 0)) (kz BK120) hb)
           have n2_ := Aside0.mk (below_step (hz HB) hb)
           clear HO_8
           clear BK120
           clear HB
           have HO_8 := n0_
           have BK120 := n1_
           have HB := n2_
           clear n0_ n1_ n2_
           (try clear hb)
           refine hK.out _ _ (HS0_) (fun hHeld => ?_)
           clear hK K
           refine norm_ (a' := ?_) ?_ ?_
           rotate_left
           ·show Act.put _ (some 50) _ = _
            simp only [Act.put, zq1, zq2, zq3, i64_w, i32_w]
            rfl
           refine zp 14 55 (bm 16 32767) ?_
           refine zp 15 56 (bm 16 65535) ?_
           refine done_ (done_of HT_.out (by kernel_rfl)) ?_
           try go_wp2
           go_roundg k1
           case measure => have := HK1.out; omega
           case rel => exact ⟨(wrap64 (x10_1 - ((rdOf ByteArray.empty l1 x36_1).size : Int))), (wrap64 (x36_1 + 1)), (x121000_1), (x121001_1), (x121002_1), (by first | rfl | (simp; done) | (simp [*]; done)), (by first | rfl | (simp; done) | (simp [*]; done)), H', ⟨by have := HK1.out; omega⟩, ⟨oz HO_8⟩, ⟨kz BK120⟩, ⟨hz HB⟩⟩
          ·rw [if_neg c17] at H
           have c17b0 : (t130.toList == (rdOf ByteArray.empty t123 x36_1).toList) = false := beq_eq_false_iff_ne.mpr c17
           have c17b1 : (t130.toList != (rdOf ByteArray.empty t123 x36_1).toList) = true := bne_iff_ne.mpr c17
           simp only [Option.some.injEq, Prod.mk.injEq] at H
           obtain ⟨rfl, rfl, rfl, rfl⟩ := H
           have p128 : 0 ≤ (x36_1 : Int) := of_decide_eq_true (by first | (with_reducible assumption) | assumption)
           have q128 : x36_1 < (l1.length : Int) := of_decide_eq_true (by first | (with_reducible assumption) | assumption)
           obtain ⟨ad128, e128, hx128_0⟩ := Kd.at_string HR1.out x36_1 p128 q128
           cases e128
           replace hx128_0 := (HB.out.cell (World.block_lt_of_cell? w _ hx128_0)).trans hx128_0
           replace p128 := eq_true p128
           replace q128 := eq_true q128
           try go_wp2
           have n0_ := Aside0.mk (Kd.R_drew HO_8.out)
           have n1_ := Aside0.mk (blk_drew BK120.out)
           have n2_ := Aside0.mk (below_drew1 HB.out)
           clear HO_8
           clear BK120
           clear HB
           have HO_8 := n0_
           have BK120 := n1_
           have HB := n2_
           clear n0_ n1_ n2_
           have p131 : 0 ≤ (x36_1 : Int) := of_decide_eq_true (by first | (with_reducible assumption) | assumption)
           have q131 : x36_1 < (t123.length : Int) := of_decide_eq_true (by first | (with_reducible assumption) | assumption)
           obtain ⟨ad131, e131, hx131_0⟩ := Kd.at_string (Kd.R_reads' HO_8.out).2.2 x36_1 p131 q131
           cases e131
           replace p131 := eq_true p131
           replace q131 := eq_true q131
           refine start_ (n := 16) (S := fun w' => w'.cell? (ad131.add (x36_1).toNat) = some (.string (rdOf ByteArray.empty t123 x36_1))) (ds := []) (bm 16 0) (by kernel_rfl) rfl rfl (hx131_0) (fun hHeld => ?_); refine with_tabW bands_Join.tab10 bands_Join.bits10 (fun HT_ HW_ => ?_)
           generalize wr.drew = w20 at HO_8 BK120 HB hx131_0 hHeld ⊢
           refine zp 0 41 (bm 16 1) ?_
           refine zp 1 42 (bm 16 3) ?_
           refine zp 2 43 (bm 16 7) ?_
           refine zp 4 45 (bm 16 23) ?_
           refine one_ (i := 3) (N := some 44) (bm 16 31) rfl rfl (one_of HT_.out (by kernel_rfl)) (by decide) (fun K hK => ?_)
           refine goes_ Try.func48 (by kernel_rfl) rfl #[.int .i64 t121] (by rfl) rfl rfl (by (try simp only [List.map_toArray, List.map_cons, List.map_nil]); first | done | rfl | (simp only [List.length_drop, List.length_take]; rfl) | (simp only [ByteArray.size_extract, Nat.min_self]; done) | (simp only [ByteArray.size_extract, Nat.min_self]; rfl)) ?_
           with_reducible refine (bands_band.calls t121 t129 _ A12.out).mono ?_
           rintro e w' ⟨rfl, ⟨nd, rfl⟩⟩
           refine ⟨_, rfl, ?_⟩
           refine hK.out _ _ (hHeld) (fun hHeld => ?_)
           clear hK K
           refine norm_ (a' := ?_) ?_ ?_
           rotate_left
           ·show Act.put _ (some 44) _ = _
            simp only [Act.put, zq1, zq2, zq3, i64_w, i32_w]
            rfl
           refine zp 5 46 (bm 16 63) ?_
           refine zp 6 47 (bm 16 127) ?_
           refine zp 7 48 (bm 16 255) ?_
           refine zp 8 49 (bm 16 511) ?_
           refine zp 10 51 (bm 16 1535) ?_
           refine zp 11 52 (bm 16 3583) ?_
           refine zp 12 53 (bm 16 7679) ?_
           refine zt 13 54 (bm 16 15871) rfl (by intro w' s0; go_simp; with_reducible rfl) ?_
           refine one_ (i := 9) (N := some 50) (bm 16 16383) rfl rfl (one_of HT_.out (by kernel_rfl)) (by decide) (fun K hK => ?_)
           refine goes_ Try.func45 (by kernel_rfl) rfl #[.string (rdOf ByteArray.empty l1 x36_1)] (by rfl) rfl rfl (by (try simp only [List.map_toArray, List.map_cons, List.map_nil]); first | done | rfl | (simp only [List.length_drop, List.length_take]; rfl) | (simp only [ByteArray.size_extract, Nat.min_self]; done) | (simp only [ByteArray.size_extract, Nat.min_self]; rfl)) ?_
           with_reducible refine (sha_Sum.calls k1 (rdOf ByteArray.empty l1 x36_1) t130 _ A15.out).mono ?_
           rintro e w21 ⟨rfl, hb⟩
           have HS0_ := (hb.cell (World.block_lt_of_cell? _ _ (hHeld))).trans (hHeld)
           refine ⟨_, rfl, ?_⟩
           have n0_ := Aside0.mk (Kd.R_below (oz HO_8) hb)
           have n1_ := Aside0.mk (blk_below (g := gb120) (o := .cells #[.int .i64 x121000_1, .int .i64 x121001_1, .string x121002_1] 57 (0, 0)) (kz BK120) hb)
           have n2_ := Aside0.mk (below_step (hz HB) hb)
           clear HO_8
           clear BK120
           clear HB
           have HO_8 := n0_
           have BK120 := n1_
           have HB := n2_
           clear n0_ n1_ n2_
           (try clear hb)
           refine hK.out _ _ (HS0_) (fun hHeld => ?_)
           clear hK K
           refine norm_ (a' := ?_) ?_ ?_
           rotate_left
           ·show Act.put _ (some 50) _ = _
            simp only [Act.put, zq1, zq2, zq3, i64_w, i32_w]
            rfl
           refine zp 14 55 (bm 16 32767) ?_
           refine zp 15 56 (bm 16 65535) ?_
           refine done_ (done_of HT_.out (by kernel_rfl)) ?_
           have hcz22_0 : w21.cell? ⟨gb120, 0, none⟩ = some (.int .i64 x121000_1) := (blk_cell BK120.out 0).trans rfl
           have hcz22_1 : w21.cell? ⟨gb120, 1, none⟩ = some (.int .i64 x121001_1) := (blk_cell BK120.out 1).trans rfl
           have hcz22_2 : w21.cell? ⟨gb120, 2, none⟩ = some (.string x121002_1) := (blk_cell BK120.out 2).trans rfl
           have hfz22_0 := blk_frozen BK120.out 0
           have hfz22_1 := blk_frozen BK120.out 1
           have hfz22_2 := blk_frozen BK120.out 2
           try go_wp2
           refine bodyPost_ret (results_ct rfl _ _ gb120 57 #[.int .i64 0, .int .i64 0, .string (⟨#[]⟩ : ByteArray)] (0, 0) _ rfl (by (with_reducible repeat (first | refine blk_drewN ?_ _ | refine blk_drew ?_ | refine blk_alloc ?_ _)); refine blk_put (cs := #[.int .i64 0, .int .i64 0, .string x121002_1]) ?_ 2 _ rfl; (with_reducible repeat (first | refine blk_drewN ?_ _ | refine blk_drew ?_ | refine blk_alloc ?_ _)); refine blk_put (cs := #[.int .i64 0, .int .i64 x121001_1, .string x121002_1]) ?_ 1 _ rfl; (with_reducible repeat (first | refine blk_drewN ?_ _ | refine blk_drew ?_ | refine blk_alloc ?_ _)); refine blk_put (cs := #[.int .i64 x121000_1, .int .i64 x121001_1, .string x121002_1]) ?_ 0 _ rfl; (with_reducible repeat (first | refine blk_drewN ?_ _ | refine blk_drew ?_ | refine blk_alloc ?_ _)); exact BK120.out) Try.underlying57 rfl (by kernel_rfl)) rfl ?_
           exact ⟨by first | rfl | (simp [errW_none, errW_some] <;> rfl) | (simp only [← hji13]; first | rfl | (simp [errW_none, errW_some] <;> rfl)) | (simp [*, errW_none, errW_some] <;> rfl), by repeat (first | (with_reducible first | exact HB.out | apply below_alloc | apply pw_below_drewN | apply below_drew1 | refine below_set ?_ GE120.out) | exact HB.out)⟩
         ·rw [if_neg c16] at H
          exact absurd H (by simp)
        ·rw [if_neg c14] at H
         have c14b0 : (((rdOf ByteArray.empty l1 x36_1).size : Int) == (ji13)) = false := beq_eq_false_iff_ne.mpr c14
         have c14b1 : (((rdOf ByteArray.empty l1 x36_1).size : Int) != (ji13)) = true := bne_iff_ne.mpr c14
         simp only [Option.some.injEq, Prod.mk.injEq] at H
         obtain ⟨rfl, rfl, rfl, rfl⟩ := H
         have p128 : 0 ≤ (x36_1 : Int) := of_decide_eq_true (by first | (with_reducible assumption) | assumption)
         have q128 : x36_1 < (l1.length : Int) := of_decide_eq_true (by first | (with_reducible assumption) | assumption)
         obtain ⟨ad128, e128, hx128_0⟩ := Kd.at_string HR1.out x36_1 p128 q128
         cases e128
         replace hx128_0 := (HB.out.cell (World.block_lt_of_cell? w _ hx128_0)).trans hx128_0
         replace p128 := eq_true p128
         replace q128 := eq_true q128
         try go_wp2
         have n0_ := Aside0.mk (Kd.R_drew HO_8.out)
         have n1_ := Aside0.mk (blk_drew BK120.out)
         have n2_ := Aside0.mk (below_drew1 HB.out)
         clear HO_8
         clear BK120
         clear HB
         have HO_8 := n0_
         have BK120 := n1_
         have HB := n2_
         clear n0_ n1_ n2_
         refine start_ (n := 16) (S := fun w' => True) (ds := []) (bm 16 0) (by kernel_rfl) rfl rfl trivial (fun hHeld => ?_); refine with_tabW bands_Join.tab10 bands_Join.bits10 (fun HT_ HW_ => ?_)
         generalize wr.drew = w23 at HO_8 BK120 HB hHeld ⊢
         refine zp 0 41 (bm 16 1) ?_
         refine zp 1 42 (bm 16 3) ?_
         refine zp 2 43 (bm 16 7) ?_
         refine zp 4 45 (bm 16 23) ?_
         refine one_ (i := 3) (N := some 44) (bm 16 31) rfl rfl (one_of HT_.out (by kernel_rfl)) (by decide) (fun K hK => ?_)
         refine goes_ Try.func48 (by kernel_rfl) rfl #[.int .i64 t121] (by rfl) rfl rfl (by (try simp only [List.map_toArray, List.map_cons, List.map_nil]); first | done | rfl | (simp only [List.length_drop, List.length_take]; rfl) | (simp only [ByteArray.size_extract, Nat.min_self]; done) | (simp only [ByteArray.size_extract, Nat.min_self]; rfl)) ?_
         with_reducible refine (bands_band.calls t121 t129 _ A12.out).mono ?_
         rintro e w' ⟨rfl, ⟨nd, rfl⟩⟩
         refine ⟨_, rfl, ?_⟩
         refine hK.out _ _ trivial (fun hHeld => ?_)
         clear hK K
         refine norm_ (a' := ?_) ?_ ?_
         rotate_left
         ·show Act.put _ (some 44) _ = _
          simp only [Act.put, zq1, zq2, zq3, i64_w, i32_w]
          rfl
         refine zp 5 46 (bm 16 63) ?_
         refine zp 6 47 (bm 16 127) ?_
         refine zp 7 48 (bm 16 255) ?_
         refine pure_ (i := 8) (N := some 49) (v := undef) (a' := ?_) (bm 16 511) rfl rfl (any_of HT_.out (by kernel_rfl)) (fun _ _ _ h => h) (Or.inr ⟨by rfl, rfl⟩) ?_ ?_
         rotate_left
         ·simp only [Act.put, zq1, zq2, zq3, i64_w, i32_w]
          rfl
         refine pure_ (i := 9) (N := some 50) (v := undef) (a' := ?_) (bm 16 1023) rfl rfl (any_of HT_.out (by kernel_rfl)) (fun _ _ _ h => h) (Or.inr ⟨by rfl, rfl⟩) ?_ ?_
         rotate_left
         ·simp only [Act.put, zq1, zq2, zq3, i64_w, i32_w]
          rfl
         refine pure_ (i := 10) (N := some 51) (v := undef) (a' := ?_) (bm 16 2047) rfl rfl (any_of HT_.out (by kernel_rfl)) (fun _ _ _ h => h) (Or.inr ⟨by rfl, rfl⟩) ?_ ?_
         rotate_left
         ·simp only [Act.put, zq1, zq2, zq3, i64_w, i32_w]
          rfl
         refine pure_ (i := 11) (N := some 52) (v := undef) (a' := ?_) (bm 16 4095) rfl rfl (any_of HT_.out (by kernel_rfl)) (fun _ _ _ h => h) (Or.inr ⟨by rfl, rfl⟩) ?_ ?_
         rotate_left
         ·simp only [Act.put, zq1, zq2, zq3, i64_w, i32_w]
          rfl
         refine pure_ (i := 12) (N := some 53) (v := undef) (a' := ?_) (bm 16 8191) rfl rfl (any_of HT_.out (by kernel_rfl)) (fun _ _ _ h => h) (Or.inr ⟨by rfl, rfl⟩) ?_ ?_
         rotate_left
         ·simp only [Act.put, zq1, zq2, zq3, i64_w, i32_w]
          rfl
         refine pure_ (i := 13) (N := some 54) (v := undef) (a' := ?_) (bm 16 16383) rfl rfl (any_of HT_.out (by kernel_rfl)) (fun _ _ _ h => h) (Or.inr ⟨by rfl, rfl⟩) ?_ ?_
         rotate_left
         ·simp only [Act.put, zq1, zq2, zq3, i64_w, i32_w]
          rfl
         refine pure_ (i := 14) (N := some 55) (v := undef) (a' := ?_) (bm 16 32767) rfl rfl (any_of HT_.out (by kernel_rfl)) (fun _ _ _ h => h) (Or.inr ⟨by rfl, rfl⟩) ?_ ?_
         rotate_left
         ·simp only [Act.put, zq1, zq2, zq3, i64_w, i32_w]
          rfl
         refine zp 15 56 (bm 16 65535) ?_
         refine done_ (done_of HT_.out (by kernel_rfl)) ?_
         have hcz24_0 : w23.cell? ⟨gb120, 0, none⟩ = some (.int .i64 x121000_1) := (blk_cell BK120.out 0).trans rfl
         have hcz24_1 : w23.cell? ⟨gb120, 1, none⟩ = some (.int .i64 x121001_1) := (blk_cell BK120.out 1).trans rfl
         have hcz24_2 : w23.cell? ⟨gb120, 2, none⟩ = some (.string x121002_1) := (blk_cell BK120.out 2).trans rfl
         have hfz24_0 := blk_frozen BK120.out 0
         have hfz24_1 := blk_frozen BK120.out 1
         have hfz24_2 := blk_frozen BK120.out 2
         try go_wp2
         refine bodyPost_ret (results_ct rfl _ _ gb120 57 #[.int .i64 0, .int .i64 0, .string (⟨#[]⟩ : ByteArray)] (0, 0) _ rfl (by (with_reducible repeat (first | refine blk_drewN ?_ _ | refine blk_drew ?_ | refine blk_alloc ?_ _)); refine blk_put (cs := #[.int .i64 0, .int .i64 0, .string x121002_1]) ?_ 2 _ rfl; (with_reducible repeat (first | refine blk_drewN ?_ _ | refine blk_drew ?_ | refine blk_alloc ?_ _)); refine blk_put (cs := #[.int .i64 0, .int .i64 x121001_1, .string x121002_1]) ?_ 1 _ rfl; (with_reducible repeat (first | refine blk_drewN ?_ _ | refine blk_drew ?_ | refine blk_alloc ?_ _)); refine blk_put (cs := #[.int .i64 x121000_1, .int .i64 x121001_1, .string x121002_1]) ?_ 0 _ rfl; (with_reducible repeat (first | refine blk_drewN ?_ _ | refine blk_drew ?_ | refine blk_alloc ?_ _)); exact BK120.out) Try.underlying57 rfl (by kernel_rfl)) rfl ?_
         exact ⟨by first | rfl | (simp [errW_none, errW_some] <;> rfl) | (simp only [← hji13]; first | rfl | (simp [errW_none, errW_some] <;> rfl)) | (simp [*, errW_none, errW_some] <;> rfl), by repeat (first | (with_reducible first | exact HB.out | apply below_alloc | apply pw_below_drewN | apply below_drew1 | refine below_set ?_ GE120.out) | exact HB.out)⟩
       ·rw [if_neg c11] at H
        exact absurd H (by simp)
      ·rw [if_neg c10] at H
       exact absurd H (by simp)
     ·rw [if_neg c9] at H
      have c9b0 : decide (x36_1 < (l1.length : Int)) = false := decide_eq_false c9
      clear c9
      replace H := Option.bind_eq_some_iff.mp H
      obtain ⟨t127, A250, H⟩ := H
      replace H : (some (t121, t122, t127, 0)) = some (r1, r2, r3, r4) := H
      have A25 := Aside0.mk A250
      clear A250
      simp only [Option.some.injEq, Prod.mk.injEq] at H
      obtain ⟨rfl, rfl, rfl, rfl⟩ := H
      go_wp2_with (first | ((with_reducible refine gate_callee (f := 55) rfl ?_); refine gz 66 Try.func55 #[.slice A1 l1.length c1, .string (⟨#[]⟩ : ByteArray)] ?_; (with_reducible refine (strings_Join.calls _ _ l1 (⟨#[]⟩ : ByteArray) t127 _ ?side1 ?side2 A25.out).mono ?_); (case side1 => repeat (first | exact (Kd.C_below HR1.out HB.out) | (with_reducible refine Kd.C_alloc ?_ _) | (with_reducible refine Kd.C_drewN ?_ _) | (with_reducible refine Kd.C_drew ?_))); (case side2 => exact HC1.out); rintro e w26 ⟨rfl, hb⟩; refine ⟨_, rfl, ?_⟩; have n0_ := Aside0.mk (Kd.R_below (oz HO_8) hb); have n1_ := Aside0.mk (blk_below (g := gb120) (o := .cells #[.int .i64 x121000_1, .int .i64 x121001_1, .string x121002_1] 57 (0, 0)) (kz BK120) hb); have n2_ := Aside0.mk (below_step (hz HB) hb); clear HO_8; clear BK120; clear HB; have HO_8 := n0_; have BK120 := n1_; have HB := n2_; clear n0_ n1_ n2_; (try clear hb); (try clear hb2); (try clear hk); (try clear hi); have hcz27_0 : w26.cell? ⟨gb120, 0, none⟩ = some (.int .i64 x121000_1) := (blk_cell BK120.out 0).trans rfl; have hcz27_1 : w26.cell? ⟨gb120, 1, none⟩ = some (.int .i64 x121001_1) := (blk_cell BK120.out 1).trans rfl; have hcz27_2 : w26.cell? ⟨gb120, 2, none⟩ = some (.string x121002_1) := (blk_cell BK120.out 2).trans rfl; have hfz27_0 := blk_frozen BK120.out 0; have hfz27_1 := blk_frozen BK120.out 1; have hfz27_2 := blk_frozen BK120.out 2))
      refine bodyPost_ret (results_ct rfl _ _ gb120 57 #[.int .i64 t121, .int .i64 t122, .string t127] (0, 0) _ rfl (by (with_reducible repeat (first | refine blk_drewN ?_ _ | refine blk_drew ?_ | refine blk_alloc ?_ _)); refine blk_put (cs := #[.int .i64 t121, .int .i64 t122, .string x121002_1]) ?_ 2 _ rfl; (with_reducible repeat (first | refine blk_drewN ?_ _ | refine blk_drew ?_ | refine blk_alloc ?_ _)); refine blk_put (cs := #[.int .i64 t121, .int .i64 x121001_1, .string x121002_1]) ?_ 1 _ rfl; (with_reducible repeat (first | refine blk_drewN ?_ _ | refine blk_drew ?_ | refine blk_alloc ?_ _)); refine blk_put (cs := #[.int .i64 x121000_1, .int .i64 x121001_1, .string x121002_1]) ?_ 0 _ rfl; (with_reducible repeat (first | refine blk_drewN ?_ _ | refine blk_drew ?_ | refine blk_alloc ?_ _)); exact BK120.out) Try.underlying57 rfl (by kernel_rfl)) rfl ?_
      exact ⟨by first | rfl | (simp [errW_none, errW_some] <;> rfl) | (simp [*, errW_none, errW_some] <;> rfl), by repeat (first | (with_reducible first | exact HB.out | apply below_alloc | apply pw_below_drewN | apply below_drew1 | refine below_set ?_ GE120.out) | exact HB.out)⟩
  ·rw [if_neg c5] at H
   have c5b0 : ((l1.length : Int) == (t123.length : Int)) = false := beq_eq_false_iff_ne.mpr c5
   have c5b1 : ((l1.length : Int) != (t123.length : Int)) = true := bne_iff_ne.mpr c5
   have c5b2 : (l1.length == t123.length) = false := by first | simpa using c5 | (simp at c5 ⊢; omega)
   simp only [Option.some.injEq, Prod.mk.injEq] at H
   obtain ⟨rfl, rfl, rfl, rfl⟩ := H
   go_enter Try.func34, Try.ntmps34
   go_wp2_with (first | ((with_reducible refine gate_dst (N := 4) rfl ?_); refine box_event ?hg (N := 4) ?hd (cs := #[.int .i64 0, .int .i64 0, .string (⟨#[]⟩ : ByteArray)]) (t := 57) ?hr ?_; (case hd => rfl); (case hg => rfl); (case hr => first | (go_simp; done) | (go_simp; rfl)); intro gb120 hg w28 hbox hb; have n0_ := Aside0.mk (below_step (hz HB) hb); have n1_ := Aside0.mk (hbox); have n2_ := Aside0.mk ((by rw [hg]; exact (below_size (hz HB)) : w.heap.size ≤ gb120)); have n3_ := Aside0.mk ((by rw [hg]; exact (below_size (hz HB)) : w.heap.size ≤ gb120)); clear HB; have HB := n0_; have BK120 := n1_; have GW120 := n2_; have GE120 := n3_; clear n0_ n1_ n2_ n3_; clear hb hbox hg) | ((with_reducible refine gate_callee (f := 54) rfl ?_); refine gz 15 Try.func54 #[.string a0] ?_; (with_reducible refine (bands_Read.calls k a0 t121 t122 t123 t124 _ A3.out).mono ?_); rintro e w29 ⟨v125, rfl, ho0, hb⟩; refine ⟨_, rfl, ?_⟩; have n0_ := Aside0.mk (Kd.R_lower ho0 (below_size (hz HB))); have n1_ := Aside0.mk (blk_below (g := gb120) (o := .cells #[.int .i64 0, .int .i64 0, .string (⟨#[]⟩ : ByteArray)] 57 (0, 0)) (kz BK120) hb); have n2_ := Aside0.mk (below_step (hz HB) hb); clear BK120; clear HB; have HO126 := n0_; have BK120 := n1_; have HB := n2_; clear n0_ n1_ n2_; (try clear hb); (try clear hb2); (try clear hk); (try clear hi); (try clear ho0); obtain ⟨Ao30, co30, eo30⟩ := Kd.R_slice HO126.out; subst eo30; have hcz31_0 : w29.cell? ⟨gb120, 0, none⟩ = some (.int .i64 0) := (blk_cell BK120.out 0).trans rfl; have hcz31_1 : w29.cell? ⟨gb120, 1, none⟩ = some (.int .i64 0) := (blk_cell BK120.out 1).trans rfl; have hcz31_2 : w29.cell? ⟨gb120, 2, none⟩ = some (.string (⟨#[]⟩ : ByteArray)) := (blk_cell BK120.out 2).trans rfl; have hfz31_0 := blk_frozen BK120.out 0; have hfz31_1 := blk_frozen BK120.out 1; have hfz31_2 := blk_frozen BK120.out 2))
   refine bodyPost_ret (results_ct rfl _ _ gb120 57 #[.int .i64 0, .int .i64 0, .string (⟨#[]⟩ : ByteArray)] (0, 0) _ rfl (by (with_reducible repeat (first | refine blk_drewN ?_ _ | refine blk_drew ?_ | refine blk_alloc ?_ _)); refine blk_put (cs := #[.int .i64 0, .int .i64 0, .string (⟨#[]⟩ : ByteArray)]) ?_ 2 _ rfl; (with_reducible repeat (first | refine blk_drewN ?_ _ | refine blk_drew ?_ | refine blk_alloc ?_ _)); refine blk_put (cs := #[.int .i64 0, .int .i64 0, .string (⟨#[]⟩ : ByteArray)]) ?_ 1 _ rfl; (with_reducible repeat (first | refine blk_drewN ?_ _ | refine blk_drew ?_ | refine blk_alloc ?_ _)); refine blk_put (cs := #[.int .i64 0, .int .i64 0, .string (⟨#[]⟩ : ByteArray)]) ?_ 0 _ rfl; (with_reducible repeat (first | refine blk_drewN ?_ _ | refine blk_drew ?_ | refine blk_alloc ?_ _)); exact BK120.out) Try.underlying57 rfl (by kernel_rfl)) rfl ?_
   exact ⟨by first | rfl | (simp [errW_none, errW_some] <;> rfl) | (simp [*, errW_none, errW_some] <;> rfl), by repeat (first | (with_reducible first | exact HB.out | apply below_alloc | apply pw_below_drewN | apply below_drew1 | refine below_set ?_ GE120.out) | exact HB.out)⟩
 ·rw [if_neg c4] at H
  have c4b0 : (t124 == 0) = false := beq_eq_false_iff_ne.mpr c4
  have c4b1 : (t124 != 0) = true := bne_iff_ne.mpr c4
  simp only [Option.some.injEq, Prod.mk.injEq] at H
  obtain ⟨rfl, rfl, rfl, rfl⟩ := H
  go_enter Try.func34, Try.ntmps34
  go_wp2_with (first | ((with_reducible refine gate_dst (N := 4) rfl ?_); refine box_event ?hg (N := 4) ?hd (cs := #[.int .i64 0, .int .i64 0, .string (⟨#[]⟩ : ByteArray)]) (t := 57) ?hr ?_; (case hd => rfl); (case hg => rfl); (case hr => first | (go_simp; done) | (go_simp; rfl)); intro gb120 hg w32 hbox hb; have n0_ := Aside0.mk (below_step (hz HB) hb); have n1_ := Aside0.mk (hbox); have n2_ := Aside0.mk ((by rw [hg]; exact (below_size (hz HB)) : w.heap.size ≤ gb120)); have n3_ := Aside0.mk ((by rw [hg]; exact (below_size (hz HB)) : w.heap.size ≤ gb120)); clear HB; have HB := n0_; have BK120 := n1_; have GW120 := n2_; have GE120 := n3_; clear n0_ n1_ n2_ n3_; clear hb hbox hg) | ((with_reducible refine gate_callee (f := 54) rfl ?_); refine gz 15 Try.func54 #[.string a0] ?_; (with_reducible refine (bands_Read.calls k a0 t121 t122 t123 t124 _ A3.out).mono ?_); rintro e w33 ⟨v125, rfl, ho0, hb⟩; refine ⟨_, rfl, ?_⟩; have n0_ := Aside0.mk (Kd.R_lower ho0 (below_size (hz HB))); have n1_ := Aside0.mk (blk_below (g := gb120) (o := .cells #[.int .i64 0, .int .i64 0, .string (⟨#[]⟩ : ByteArray)] 57 (0, 0)) (kz BK120) hb); have n2_ := Aside0.mk (below_step (hz HB) hb); clear BK120; clear HB; have HO126 := n0_; have BK120 := n1_; have HB := n2_; clear n0_ n1_ n2_; (try clear hb); (try clear hb2); (try clear hk); (try clear hi); (try clear ho0); have hcz34_0 : w33.cell? ⟨gb120, 0, none⟩ = some (.int .i64 0) := (blk_cell BK120.out 0).trans rfl; have hcz34_1 : w33.cell? ⟨gb120, 1, none⟩ = some (.int .i64 0) := (blk_cell BK120.out 1).trans rfl; have hcz34_2 : w33.cell? ⟨gb120, 2, none⟩ = some (.string (⟨#[]⟩ : ByteArray)) := (blk_cell BK120.out 2).trans rfl; have hfz34_0 := blk_frozen BK120.out 0; have hfz34_1 := blk_frozen BK120.out 1; have hfz34_2 := blk_frozen BK120.out 2))
  refine bodyPost_ret (results_ct rfl _ _ gb120 57 #[.int .i64 0, .int .i64 0, .string (⟨#[]⟩ : ByteArray)] (0, 0) _ rfl (by (with_reducible repeat (first | refine blk_drewN ?_ _ | refine blk_drew ?_ | refine blk_alloc ?_ _)); refine blk_put (cs := #[.int .i64 0, .int .i64 0, .string (⟨#[]⟩ : ByteArray)]) ?_ 2 _ rfl; (with_reducible repeat (first | refine blk_drewN ?_ _ | refine blk_drew ?_ | refine blk_alloc ?_ _)); refine blk_put (cs := #[.int .i64 0, .int .i64 0, .string (⟨#[]⟩ : ByteArray)]) ?_ 1 _ rfl; (with_reducible repeat (first | refine blk_drewN ?_ _ | refine blk_drew ?_ | refine blk_alloc ?_ _)); refine blk_put (cs := #[.int .i64 0, .int .i64 0, .string (⟨#[]⟩ : ByteArray)]) ?_ 0 _ rfl; (with_reducible repeat (first | refine blk_drewN ?_ _ | refine blk_drew ?_ | refine blk_alloc ?_ _)); exact BK120.out) Try.underlying57 rfl (by kernel_rfl)) rfl ?_
  exact ⟨by first | rfl | (simp [errW_none, errW_some] <;> rfl) | (simp [*, errW_none, errW_some] <;> rfl), by repeat (first | (with_reducible first | exact HB.out | apply below_alloc | apply pw_below_drewN | apply below_drew1 | refine below_set ?_ GE120.out) | exact HB.out)⟩

end Go.Proofs.Ytdbiokmlgniobaa.PL22

namespace Go.Proofs.Ytdbiokmlgniobaa.PL22
open Go.RowKit Go.Proofs.YtdbiokmlgniobaaW.PrintWords Go.Proofs.YtdbiokmlgniobaaW.PrintLast Go.Proofs.YtdbiokmlgniobaaW.PrintMore
attribute [local go_sem] max2_int min2_int max_two min_two max_three min_three max_four min_four   -- for this text's walks alone
set_option linter.unusedVariables false
set_option linter.unusedSimpArgs false

-- NOT PRINTED: function 10 (client_New)

def cmp_Or_int.l0 : Nat → Int → List Int → Int → Int → Option (Int)
 | 0, _, _, _, _ => none
 | k + 1, x3, x6, x7, x8 => if x8 < x7 then (if 0 ≤ x8 then (if x8 < (x6.length : Int) then (if (rd x6 x8) = x3 then (cmp_Or_int.l0 k x3 x6 x7 (wrap64 (x8 + 1))) else (some (rd x6 x8))) else (none)) else (none)) else (some x3)
def cmp_Or_int.f (k : Nat) (l0 : List Int) : Option (Int) := cmp_Or_int.l0 k 0 l0 (l0.length : Int) 0
set_option maxHeartbeats 40000000 in
set_option maxRecDepth 100000 in
theorem cmp_Or_int.calls (k : Nat) (A0 : Option Addr) (c0 : Nat) (l0 : List Int) (r : Int) (w : World) (hr0 : Kd.C (Kd.int .i64) w A0 l0.length l0) (hc0 : l0.length ≤ c0) (h : cmp_Or_int.f k l0 = some r) :
  Calls Try.prog 49 #[.slice A0 l0.length c0] w fun e w' => e = .returned (.int .i64 r) ∧ Drawn0 w w' := by
 have HR0 := Aside0.mk hr0
 have HC0 := Aside0.mk hc0
 clear hr0 hc0
 have H : (cmp_Or_int.l0 k 0 l0 (l0.length : Int) 0) = some r := h
 clear h
 have H' := Aside0.mk H
 clear H
 go_enter Try.func49, Try.ntmps49
 go_wp2
 go_loopg [8] k (fun kq v8 w' => ∃ (x8_1 : Int), v8 = .int .i64 x8_1 ∧ Aside0 (cmp_Or_int.l0 kq 0 l0 (l0.length : Int) x8_1 = some r) ∧ Aside0 (kq ≤ k) ∧ Drawn0 w w')
 case atStart => exact ⟨(0), (by first | rfl | (simp; done) | (simp [*]; done)), H', ⟨Nat.le_refl _⟩, by repeat (first | exact Drawn0.refl _ | apply Drawn0.step)⟩
 case round =>
  clear H'
  obtain ⟨x8_1, rfl, HA, HK1, ⟨m1, rfl⟩⟩ := hrel
  cases gk with
  | zero => exact absurd HA.out (by simp [cmp_Or_int.l0])
  | succ k1 =>
   have H := HA.out
   clear HA
   simp only [cmp_Or_int.l0] at H
   by_cases c2 : x8_1 < (l0.length : Int)
   ·rw [if_pos c2] at H
    have c2b0 : decide (x8_1 < (l0.length : Int)) = true := decide_eq_true c2
    clear c2
    by_cases c3 : 0 ≤ x8_1
    ·rw [if_pos c3] at H
     have c3b0 : decide (0 ≤ x8_1) = true := decide_eq_true c3
     clear c3
     by_cases c4 : x8_1 < (l0.length : Int)
     ·rw [if_pos c4] at H
      have c4b0 : decide (x8_1 < (l0.length : Int)) = true := decide_eq_true c4
      clear c4
      by_cases c5 : (rd l0 x8_1) = 0
      ·rw [if_pos c5] at H
       have c5b0 : ((rd l0 x8_1) == 0) = true := beq_iff_eq.mpr c5
       have c5b1 : ((rd l0 x8_1) != 0) = false := bne_eq_false_iff_eq.mpr c5
       clear c5
       have H' := Aside0.mk H
       clear H
       have p104 : 0 ≤ (x8_1 : Int) := of_decide_eq_true (by first | (with_reducible assumption) | assumption)
       have q104 : x8_1 < (l0.length : Int) := of_decide_eq_true (by first | (with_reducible assumption) | assumption)
       obtain ⟨ad104, e104, hx104_0⟩ := Kd.at_int HR0.out x8_1 p104 q104
       cases e104
       replace p104 := eq_true p104
       replace q104 := eq_true q104
       go_wp2
       go_roundg k1
       case measure => have := HK1.out; omega
       case rel => exact ⟨(wrap64 (x8_1 + 1)), (by first | rfl | (simp; done) | (simp [*]; done)), H', ⟨by have := HK1.out; omega⟩, by repeat (first | exact Drawn0.refl _ | apply Drawn0.step)⟩
      ·rw [if_neg c5] at H
       have c5b0 : ((rd l0 x8_1) == 0) = false := beq_eq_false_iff_ne.mpr c5
       have c5b1 : ((rd l0 x8_1) != 0) = true := bne_iff_ne.mpr c5
       obtain rfl := Option.some.inj H
       have p104 : 0 ≤ (x8_1 : Int) := of_decide_eq_true (by first | (with_reducible assumption) | assumption)
       have q104 : x8_1 < (l0.length : Int) := of_decide_eq_true (by first | (with_reducible assumption) | assumption)
       obtain ⟨ad104, e104, hx104_0⟩ := Kd.at_int HR0.out x8_1 p104 q104
       cases e104
       replace p104 := eq_true p104
       replace q104 := eq_true q104
       go_wp2
       go_ret
       exact ⟨by first | rfl | (simp; done) | (simp [*]; done), by repeat (first | exact Drawn0.refl _ | apply Drawn0.step)⟩
     ·rw [if_neg c4] at H
      exact absurd H (by simp)
    ·rw [if_neg c3] at H
     exact absurd H (by simp)
   ·rw [if_neg c2] at H
    have c2b0 : decide (x8_1 < (l0.length : Int)) = false := decide_eq_false c2
    clear c2
    obtain rfl := Option.some.inj H
    go_wp2
    go_ret
    exact ⟨by first | rfl | (simp; done) | (simp [*]; done), by repeat (first | exact Drawn0.refl _ | apply Drawn0.step)⟩

def cmp_isNaN_int.f (a0 : Int) : Option (Bool) := some (a0 != a0)
set_option maxHeartbeats 40000000 in
set_option maxRecDepth 100000 in
theorem cmp_isNaN_int.calls (a0 : Int) (r : Bool) (w : World) (h : cmp_isNaN_int.f a0 = some r) :
  Calls Try.prog 65 #[.int .i64 a0] w fun e w' => e = .returned (.bool r) ∧ Drawn0 w w' := by
 have H : (some (a0 != a0)) = some r := h
 clear h
 obtain rfl := Option.some.inj H
 go_enter Try.func65, Try.ntmps65
 go_wp2
 go_ret
 exact ⟨by first | rfl | (simp; done) | (simp [*]; done), by repeat (first | exact Drawn0.refl _ | apply Drawn0.step)⟩

def cmp_Compare_int.f (a0 : Int) (a1 : Int) : Option (Int) := (cmp_isNaN_int.f a0).bind fun t105 => ((cmp_isNaN_int.f a1).bind fun t106 => (if t105 = true then (if t106 = true then (some 0) else (some (-1))) else (if t106 = true then (some 1) else (if a0 < a1 then (some (-1)) else (if a0 > a1 then (some 1) else (some 0))))))
set_option maxHeartbeats 40000000 in
set_option maxRecDepth 100000 in
theorem cmp_Compare_int.calls (a0 : Int) (a1 : Int) (r : Int) (w : World) (h : cmp_Compare_int.f a0 a1 = some r) :
  Calls Try.prog 50 #[.int .i64 a0, .int .i64 a1] w fun e w' => e = .returned (.int .i64 r) ∧ Drawn0 w w' := by
 have H : ((cmp_isNaN_int.f a0).bind fun t105 => ((cmp_isNaN_int.f a1).bind fun t106 => (if t105 = true then (if t106 = true then (some 0) else (some (-1))) else (if t106 = true then (some 1) else (if a0 < a1 then (some (-1)) else (if a0 > a1 then (some 1) else (some 0))))))) = some r := h
 clear h
 replace H := Option.bind_eq_some_iff.mp H
 obtain ⟨t105, A30, H⟩ := H
 replace H : ((cmp_isNaN_int.f a1).bind fun t106 => (if t105 = true then (if t106 = true then (some 0) else (some (-1))) else (if t106 = true then (some 1) else (if a0 < a1 then (some (-1)) else (if a0 > a1 then (some 1) else (some 0)))))) = some r := H
 have A3 := Aside0.mk A30
 clear A30
 replace H := Option.bind_eq_some_iff.mp H
 obtain ⟨t106, A40, H⟩ := H
 replace H : (if t105 = true then (if t106 = true then (some 0) else (some (-1))) else (if t106 = true then (some 1) else (if a0 < a1 then (some (-1)) else (if a0 > a1 then (some 1) else (some 0))))) = some r := H
 have A4 := Aside0.mk A40
 clear A40
 by_cases c5 : t105 = true
 ·subst c5
  have H1 : (if t106 = true then (some 0) else (some (-1))) = some r := by rw [if_pos rfl] at H; exact H
  clear H
  have H := H1
  clear H1
  by_cases c6 : t106 = true
  ·subst c6
   have H1 : (some 0) = some r := by rw [if_pos rfl] at H; exact H
   clear H
   have H := H1
   clear H1
   obtain rfl := Option.some.inj H
   go_enter Try.func50, Try.ntmps50
   go_wp2_with (first | ((with_reducible refine gate_callee (f := 65) rfl ?_); refine gz 8 Try.func65 #[.int .i64 a0] ?_; (with_reducible refine (cmp_isNaN_int.calls a0 true _ A3.out).mono ?_); rintro e w' ⟨rfl, ⟨nd, rfl⟩⟩; refine ⟨_, rfl, ?_⟩) | ((with_reducible refine gate_callee (f := 65) rfl ?_); refine gz 10 Try.func65 #[.int .i64 a1] ?_; (with_reducible refine (cmp_isNaN_int.calls a1 true _ A4.out).mono ?_); rintro e w' ⟨rfl, ⟨nd, rfl⟩⟩; refine ⟨_, rfl, ?_⟩))
   go_ret
   exact ⟨by first | rfl | (simp; done) | (simp [*]; done), by repeat (first | exact Drawn0.refl _ | apply Drawn0.step)⟩
  ·replace c6 := Bool.eq_false_iff.mpr c6
   subst c6
   have H1 : (some (-1)) = some r := by rw [if_neg (show ¬ (false = true) by decide)] at H; exact H
   clear H
   have H := H1
   clear H1
   obtain rfl := Option.some.inj H
   go_enter Try.func50, Try.ntmps50
   go_wp2_with (first | ((with_reducible refine gate_callee (f := 65) rfl ?_); refine gz 8 Try.func65 #[.int .i64 a0] ?_; (with_reducible refine (cmp_isNaN_int.calls a0 true _ A3.out).mono ?_); rintro e w' ⟨rfl, ⟨nd, rfl⟩⟩; refine ⟨_, rfl, ?_⟩) | ((with_reducible refine gate_callee (f := 65) rfl ?_); refine gz 10 Try.func65 #[.int .i64 a1] ?_; (with_reducible refine (cmp_isNaN_int.calls a1 false _ A4.out).mono ?_); rintro e w' ⟨rfl, ⟨nd, rfl⟩⟩; refine ⟨_, rfl, ?_⟩))
   go_ret
   exact ⟨by first | rfl | (simp; done) | (simp [*]; done), by repeat (first | exact Drawn0.refl _ | apply Drawn0.step)⟩
 ·replace c5 := Bool.eq_false_iff.mpr c5
  subst c5
  have H1 : (if t106 = true then (some 1) else (if a0 < a1 then (some (-1)) else (if a0 > a1 then (some 1) else (some 0)))) = some r := by rw [if_neg (show ¬ (false = true) by decide)] at H; exact H
  clear H
  have H := H1
  clear H1
  by_cases c7 : t106 = true
  ·subst c7
   have H1 : (some 1) = some r := by rw [if_pos rfl] at H; exact H
   clear H
   have H := H1
   clear H1
   obtain rfl := Option.some.inj H
   go_enter Try.func50, Try.ntmps50
   go_wp2_with (first | ((with_reducible refine gate_callee (f := 65) rfl ?_); refine gz 8 Try.func65 #[.int .i64 a0] ?_; (with_reducible refine (cmp_isNaN_int.calls a0 false _ A3.out).mono ?_); rintro e w' ⟨rfl, ⟨nd, rfl⟩⟩; refine ⟨_, rfl, ?_⟩) | ((with_reducible refine gate_callee (f := 65) rfl ?_); refine gz 10 Try.func65 #[.int .i64 a1] ?_; (with_reducible refine (cmp_isNaN_int.calls a1 true _ A4.out).mono ?_); rintro e w' ⟨rfl, ⟨nd, rfl⟩⟩; refine ⟨_, rfl, ?_⟩))
   go_ret
   exact ⟨by first | rfl | (simp; done) | (simp [*]; done), by repeat (first | exact Drawn0.refl _ | apply Drawn0.step)⟩
  ·replace c7 := Bool.eq_false_iff.mpr c7
   subst c7
   have H1 : (if a0 < a1 then (some (-1)) else (if a0 > a1 then (some 1) else (some 0))) = some r := by rw [if_neg (show ¬ (false = true) by decide)] at H; exact H
   clear H
   have H := H1
   clear H1
   by_cases c8 : a0 < a1
   ·rw [if_pos c8] at H
    have c8b0 : decide (a0 < a1) = true := decide_eq_true c8
    clear c8
    obtain rfl := Option.some.inj H
    go_enter Try.func50, Try.ntmps50
    go_wp2_with (first | ((with_reducible refine gate_callee (f := 65) rfl ?_); refine gz 8 Try.func65 #[.int .i64 a0] ?_; (with_reducible refine (cmp_isNaN_int.calls a0 false _ A3.out).mono ?_); rintro e w' ⟨rfl, ⟨nd, rfl⟩⟩; refine ⟨_, rfl, ?_⟩) | ((with_reducible refine gate_callee (f := 65) rfl ?_); refine gz 10 Try.func65 #[.int .i64 a1] ?_; (with_reducible refine (cmp_isNaN_int.calls a1 false _ A4.out).mono ?_); rintro e w' ⟨rfl, ⟨nd, rfl⟩⟩; refine ⟨_, rfl, ?_⟩))
    go_ret
    exact ⟨by first | rfl | (simp; done) | (simp [*]; done), by repeat (first | exact Drawn0.refl _ | apply Drawn0.step)⟩
   ·rw [if_neg c8] at H
    have c8b0 : decide (a0 < a1) = false := decide_eq_false c8
    clear c8
    by_cases c9 : a0 > a1
    ·rw [if_pos c9] at H
     have c9b0 : decide (a1 < a0) = true := decide_eq_true c9
     clear c9
     obtain rfl := Option.some.inj H
     go_enter Try.func50, Try.ntmps50
     go_wp2_with (first | ((with_reducible refine gate_callee (f := 65) rfl ?_); refine gz 8 Try.func65 #[.int .i64 a0] ?_; (with_reducible refine (cmp_isNaN_int.calls a0 false _ A3.out).mono ?_); rintro e w' ⟨rfl, ⟨nd, rfl⟩⟩; refine ⟨_, rfl, ?_⟩) | ((with_reducible refine gate_callee (f := 65) rfl ?_); refine gz 10 Try.func65 #[.int .i64 a1] ?_; (with_reducible refine (cmp_isNaN_int.calls a1 false _ A4.out).mono ?_); rintro e w' ⟨rfl, ⟨nd, rfl⟩⟩; refine ⟨_, rfl, ?_⟩))
     go_ret
     exact ⟨by first | rfl | (simp; done) | (simp [*]; done), by repeat (first | exact Drawn0.refl _ | apply Drawn0.step)⟩
    ·rw [if_neg c9] at H
     have c9b0 : decide (a1 < a0) = false := decide_eq_false c9
     clear c9
     obtain rfl := Option.some.inj H
     go_enter Try.func50, Try.ntmps50
     go_wp2_with (first | ((with_reducible refine gate_callee (f := 65) rfl ?_); refine gz 8 Try.func65 #[.int .i64 a0] ?_; (with_reducible refine (cmp_isNaN_int.calls a0 false _ A3.out).mono ?_); rintro e w' ⟨rfl, ⟨nd, rfl⟩⟩; refine ⟨_, rfl, ?_⟩) | ((with_reducible refine gate_callee (f := 65) rfl ?_); refine gz 10 Try.func65 #[.int .i64 a1] ?_; (with_reducible refine (cmp_isNaN_int.calls a1 false _ A4.out).mono ?_); rintro e w' ⟨rfl, ⟨nd, rfl⟩⟩; refine ⟨_, rfl, ?_⟩))
     go_ret
     exact ⟨by first | rfl | (simp; done) | (simp [*]; done), by repeat (first | exact Drawn0.refl _ | apply Drawn0.step)⟩

def store_Newer.f (k : Nat) (a0_0 : Int) (a0_1 : Int) (a1_0 : Int) (a1_1 : Int) : Option (Bool) := (cmp_Compare_int.f a0_0 a1_0).bind fun t109 => ((cmp_Compare_int.f a0_1 a1_1).bind fun t110 => ((cmp_Or_int.f k (([t109, t110] : List Int))).bind fun t114 => (some (decide (t114 > 0)))))
def store_Newer.T1 : Bool × List (List Nat × List Nat) := (true, [([], []), ([0], [0]), ([], []), ([2], [2]), ([1, 3], [1, 3]), ([], []), ([5], [5]), ([], []), ([7], [7]), ([6, 8, 4], [6, 8]), ([4, 9], [4, 9]), ([10, 9], [10]), ([11], [11]), ([12, 11, 0, 1, 2, 3, 4, 5, 6, 7, 8, 9, 10, 11, 12], [12])])
def store_Newer.B1 : List Nat := [0, 1, 0, 4, 15, 0, 32, 0, 128, 511, 1023, 2047, 4095, 8191]
theorem store_Newer.tab1 : rtab .any (opsOf Try.f28 1) = store_Newer.T1 := by kernel_rfl
theorem store_Newer.bits1 : waitsOk store_Newer.T1.2 store_Newer.B1 = true := by kernel_rfl
set_option maxHeartbeats 40000000 in
set_option maxRecDepth 100000 in
theorem store_Newer.calls (k : Nat) (a0_0 : Int) (a0_1 : Int) (a1_0 : Int) (a1_1 : Int) (r : Bool) (w : World) (h : store_Newer.f k a0_0 a0_1 a1_0 a1_1 = some r) :
  Calls Try.prog 28 #[.agg #[.int .i64 a0_0, .int .i64 a0_1], .agg #[.int .i64 a1_0, .int .i64 a1_1]] w fun e w' => e = .returned (.bool r) ∧ Below w.heap.size w w' := by
 have hu23 := Try.underlying23
 have HB := Aside0.mk (Below.refl w.heap.size w)
 have H : ((cmp_Compare_int.f a0_0 a1_0).bind fun t109 => ((cmp_Compare_int.f a0_1 a1_1).bind fun t110 => ((cmp_Or_int.f k (([t109, t110] : List Int))).bind fun t114 => (some (decide (t114 > 0)))))) = some r := h
 clear h
 replace H := Option.bind_eq_some_iff.mp H
 obtain ⟨t109, A30, H⟩ := H
 replace H : ((cmp_Compare_int.f a0_1 a1_1).bind fun t110 => ((cmp_Or_int.f k (([t109, t110] : List Int))).bind fun t114 => (some (decide (t114 > 0))))) = some r := H
 have A3 := Aside0.mk A30
 clear A30
 replace H := Option.bind_eq_some_iff.mp H
 obtain ⟨t110, A40, H⟩ := H
 replace H : ((cmp_Or_int.f k (([t109, t110] : List Int))).bind fun t114 => (some (decide (t114 > 0)))) = some r := H
 have A4 := Aside0.mk A40
 clear A40
 obtain ⟨y111, hy111⟩ : ∃ y_ : List Int, y_ = (([t109, t110] : List Int)) := ⟨_, rfl⟩
 replace H : ((cmp_Or_int.f k y111).bind fun t114 => (some (decide (t114 > 0)))) = some r := by first | (rw [hy111]; with_reducible exact H) | (have H2_ := (Option.bind_some _ _).symm.trans H; rw [hy111]; with_reducible exact H2_) | (have H2_ := (Option.bind_some _ _).symm.trans H; with_reducible exact H2_) | with_reducible exact H | (rw [hy111]; exact H) | exact H
 have Ny111 := Aside0.mk hy111
 clear hy111
 replace H := Option.bind_eq_some_iff.mp H
 obtain ⟨t114, A50, H⟩ := H
 replace H : (some (decide (t114 > 0))) = some r := H
 have A5 := Aside0.mk A50
 clear A50
 obtain rfl := Option.some.inj H
 go_enter Try.func28, Try.ntmps28
 try go_wp2_with (first | ((with_reducible refine gate_dst (N := 2) rfl ?_); refine box_event ?hg (N := 2) ?hd (cs := #[.int .i64 a0_0, .int .i64 a0_1]) (t := 23) ?hr ?_; (case hd => rfl); (case hg => rfl); (case hr => first | (go_simp; done) | (go_simp; rfl)); intro gb107 hg w6 hbox hb; have n0_ := Aside0.mk (below_step (hz HB) hb); have n1_ := Aside0.mk (hbox); have n2_ := Aside0.mk ((by rw [hg]; exact (below_size (hz HB)) : w.heap.size ≤ gb107)); have n3_ := Aside0.mk ((by rw [hg]; exact (below_size (hz HB)) : w.heap.size ≤ gb107)); clear HB; have HB := n0_; have BK107 := n1_; have GW107 := n2_; have GE107 := n3_; clear n0_ n1_ n2_ n3_; clear hb hbox hg) | ((with_reducible refine gate_dst (N := 3) rfl ?_); refine box_event ?hg (N := 3) ?hd (cs := #[.int .i64 a1_0, .int .i64 a1_1]) (t := 23) ?hr ?_; (case hd => rfl); (case hg => rfl); (case hr => first | (go_simp; done) | (go_simp; rfl)); intro gb108 hg w7 hbox hb; have n0_ := Aside0.mk (blk_below (g := gb107) (o := .cells #[.int .i64 a0_0, .int .i64 a0_1] 23 (0, 0)) (kz BK107) hb); have n1_ := Aside0.mk (below_step (hz HB) hb); have n2_ := Aside0.mk (hbox); have n3_ := Aside0.mk ((by rw [hg]; exact (below_size (hz HB)) : w.heap.size ≤ gb108)); have n4_ := Aside0.mk ((by rw [hg]; exact (below_size (hz HB)) : w.heap.size ≤ gb108)); have n5_ := Aside0.mk ((by rw [hg]; exact Nat.ne_of_lt (blk_lt (g := gb107) (o := .cells #[.int .i64 a0_0, .int .i64 a0_1] 23 (0, 0)) (kz BK107)) : gb107 ≠ gb108)); have n6_ := Aside0.mk ((by rw [hg]; exact Nat.ne_of_gt (blk_lt (g := gb107) (o := .cells #[.int .i64 a0_0, .int .i64 a0_1] 23 (0, 0)) (kz BK107)) : gb108 ≠ gb107)); clear BK107; clear HB; have BK107 := n0_; have HB := n1_; have BK108 := n2_; have GW108 := n3_; have GE108 := n4_; have NB107_108 := n5_; have NB108_107 := n6_; clear n0_ n1_ n2_ n3_ n4_ n5_ n6_; clear hb hbox hg))
 have n0_ := Aside0.mk (blk_drew BK107.out)
 have n1_ := Aside0.mk (blk_drew BK108.out)
 have n2_ := Aside0.mk (below_drew1 HB.out)
 clear BK107
 clear BK108
 clear HB
 have BK107 := n0_
 have BK108 := n1_
 have HB := n2_
 clear n0_ n1_ n2_
 refine start_ (n := 14) (S := fun w' => w'.cell? ⟨gb107, 0, none⟩ = some (.int .i64 a0_0) ∧ w'.cell? ⟨gb107, 1, none⟩ = some (.int .i64 a0_1) ∧ w'.cell? ⟨gb108, 0, none⟩ = some (.int .i64 a1_0) ∧ w'.cell? ⟨gb108, 1, none⟩ = some (.int .i64 a1_1)) (ds := []) (bm 14 0) (by kernel_rfl) rfl rfl ⟨(blk_cell BK107.out 0).trans rfl, (blk_cell BK107.out 1).trans rfl, (blk_cell BK108.out 0).trans rfl, (blk_cell BK108.out 1).trans rfl⟩ (fun hHeld => ?_); refine with_tabW store_Newer.tab1 store_Newer.bits1 (fun HT_ HW_ => ?_)
 generalize w7.drew = w8 at BK107 BK108 HB hHeld ⊢
 refine zp 0 5 (bm 14 1) ?_
 refine zp 2 7 (bm 14 5) ?_
 refine zp 5 10 (bm 14 37) ?_
 refine zp 7 12 (bm 14 165) ?_
 refine zt 1 6 (bm 14 167) rfl (by rintro w' ⟨s0, s1, s2, s3⟩; go_simp; with_reducible rfl) ?_
 refine zt 3 8 (bm 14 175) rfl (by rintro w' ⟨s0, s1, s2, s3⟩; go_simp; with_reducible rfl) ?_
 refine zt 6 11 (bm 14 239) rfl (by rintro w' ⟨s0, s1, s2, s3⟩; go_simp; with_reducible rfl) ?_
 refine zt 8 13 (bm 14 495) rfl (by rintro w' ⟨s0, s1, s2, s3⟩; go_simp; with_reducible rfl) ?_
 refine one_ (i := 4) (N := some 9) (bm 14 511) rfl rfl (one_of HT_.out (by kernel_rfl)) (by decide) (fun K hK => ?_)
 refine goes_ Try.func50 (by kernel_rfl) rfl #[.int .i64 a0_0, .int .i64 a1_0] (by rfl) rfl rfl (by (try simp only [List.map_toArray, List.map_cons, List.map_nil]); first | done | rfl | (simp only [List.length_drop, List.length_take]; rfl) | (simp only [ByteArray.size_extract, Nat.min_self]; done) | (simp only [ByteArray.size_extract, Nat.min_self]; rfl)) ?_
 with_reducible refine (cmp_Compare_int.calls a0_0 a1_0 t109 _ A3.out).mono ?_
 rintro e w' ⟨rfl, ⟨nd, rfl⟩⟩
 refine ⟨_, rfl, ?_⟩
 refine hK.out _ _ ⟨(blk_cell BK107.out 0).trans rfl, (blk_cell BK107.out 1).trans rfl, (blk_cell BK108.out 0).trans rfl, (blk_cell BK108.out 1).trans rfl⟩ (fun hHeld => ?_)
 clear hK K
 refine norm_ (a' := ?_) ?_ ?_
 rotate_left
 ·show Act.put _ (some 9) _ = _
  simp only [Act.put, zq1, zq2, zq3, i64_w, i32_w]
  rfl
 refine one_ (i := 9) (N := some 14) (bm 14 1023) rfl rfl (one_of HT_.out (by kernel_rfl)) (by decide) (fun K hK => ?_)
 refine goes_ Try.func50 (by kernel_rfl) rfl #[.int .i64 a0_1, .int .i64 a1_1] (by rfl) rfl rfl (by (try simp only [List.map_toArray, List.map_cons, List.map_nil]); first | done | rfl | (simp only [List.length_drop, List.length_take]; rfl) | (simp only [ByteArray.size_extract, Nat.min_self]; done) | (simp only [ByteArray.size_extract, Nat.min_self]; rfl)) ?_
 with_reducible refine (cmp_Compare_int.calls a0_1 a1_1 t110 _ A4.out).mono ?_
 rintro e w' ⟨rfl, ⟨nd, rfl⟩⟩
 refine ⟨_, rfl, ?_⟩
 refine hK.out _ _ ⟨(blk_cell BK107.out 0).trans rfl, (blk_cell BK107.out 1).trans rfl, (blk_cell BK108.out 0).trans rfl, (blk_cell BK108.out 1).trans rfl⟩ (fun hHeld => ?_)
 clear hK K
 refine norm_ (a' := ?_) ?_ ?_
 rotate_left
 ·show Act.put _ (some 14) _ = _
  simp only [Act.put, zq1, zq2, zq3, i64_w, i32_w]
  rfl
 refine one_ (i := 10) (N := some 15) (bm 14 2047) rfl rfl (one_of HT_.out (by kernel_rfl)) (by decide) (fun K hK => ?_)
 refine Kd.R_lit_step (Kd.int .i64) _ 3 ?hg (N := 15) ?hd (xs := ([t109, t110] : List Int)) (inner := [.int .i64 t109, .int .i64 t110]) (ok := fun _ => True) (okp := fun _ => True) ?hr ?hp (fun _ hk => hk) trivial (Below.refl _ _) (Nat.le_refl _) (by simp) ?_; (case hd => rfl); (case hg => rfl); (case hr => first | (go_simp; done) | (go_simp; rfl)); (case hp => exact (Reps.one (show Kd.M (Kd.int .i64) _ _ _ t109 [.int .i64 t109] from rfl) (Reps.one (show Kd.M (Kd.int .i64) _ _ _ t110 [.int .i64 t110] from rfl) (Reps.none _ _))))
 intro v112 w9 ho10 hb hg_ hnew_
 clear hg_ hnew_
 (first | rw [← Ny111.out] at ho10 | (simp only [Int.reduceToNat] at ho10; rw [← Ny111.out] at ho10))
 have n0_ := Aside0.mk (Kd.R_lower ho10 (below_size (hz HB)))
 have n1_ := Aside0.mk (blk_below (g := gb107) (o := .cells #[.int .i64 a0_0, .int .i64 a0_1] 23 (0, 0)) (kz BK107) hb)
 have n2_ := Aside0.mk (blk_below (g := gb108) (o := .cells #[.int .i64 a1_0, .int .i64 a1_1] 23 (0, 0)) (kz BK108) hb)
 have n3_ := Aside0.mk (below_step (hz HB) hb)
 clear BK107
 clear BK108
 clear HB
 have HO113 := n0_
 have BK107 := n1_
 have BK108 := n2_
 have HB := n3_
 clear n0_ n1_ n2_ n3_
 clear hb ho10
 obtain ⟨Ao11, co11, eo11⟩ := Kd.R_slice HO113.out
 (first | subst eo11 | (injection eo11 with f1_ f2_ f3_; have f4_ := f1_.symm; have f5_ := f3_.symm; clear f1_ f2_ f3_; subst f4_; subst f5_))
 refine hK.out _ _ ⟨(blk_cell BK107.out 0).trans rfl, (blk_cell BK107.out 1).trans rfl, (blk_cell BK108.out 0).trans rfl, (blk_cell BK108.out 1).trans rfl⟩ (fun hHeld => ?_)
 clear hK K
 refine norm_ (a' := ?_) ?_ ?_
 rotate_left
 ·show Act.put _ (some 15) _ = _
  simp only [Act.put, zq1, zq2, zq3, i64_w, i32_w]
  rfl
 refine one_ (i := 11) (N := some 16) (bm 14 4095) rfl rfl (one_of HT_.out (by kernel_rfl)) (by decide) (fun K hK => ?_)
 refine goes_ Try.func49 (by kernel_rfl) rfl #[.slice Ao11 y111.length co11] (by rfl) rfl rfl (by (try simp only [List.map_toArray, List.map_cons, List.map_nil]); first | done | rfl | (simp only [List.length_drop, List.length_take]; rfl) | (simp only [ByteArray.size_extract, Nat.min_self]; done) | (simp only [ByteArray.size_extract, Nat.min_self]; rfl)) ?_
 with_reducible refine (cmp_Or_int.calls k _ _ y111 t114 _ ?side1 ?side2 A5.out).mono ?_
 (case side1 => repeat (first | exact (Kd.R_reads' HO113.out).2.2 | (with_reducible refine Kd.C_alloc ?_ _) | (with_reducible refine Kd.C_drewN ?_ _) | (with_reducible refine Kd.C_drew ?_)))
 (case side2 => exact (Kd.R_reads' HO113.out).2.1)
 rintro e w' ⟨rfl, ⟨nd, rfl⟩⟩
 refine ⟨_, rfl, ?_⟩
 refine hK.out _ _ ⟨(blk_cell BK107.out 0).trans rfl, (blk_cell BK107.out 1).trans rfl, (blk_cell BK108.out 0).trans rfl, (blk_cell BK108.out 1).trans rfl⟩ (fun hHeld => ?_)
 clear hK K
 refine norm_ (a' := ?_) ?_ ?_
 rotate_left
 ·show Act.put _ (some 16) _ = _
  simp only [Act.put, zq1, zq2, zq3, i64_w, i32_w]
  rfl
 refine zp 12 17 (bm 14 8191) ?_
 refine zp 13 4 (bm 14 16383) ?_
 refine done_ (done_of HT_.out (by kernel_rfl)) ?_
 try go_wp2
 go_ret
 exact ⟨by first | rfl | (simp [errW_none, errW_some] <;> rfl) | (simp [*, errW_none, errW_some] <;> rfl), by repeat (first | (with_reducible first | exact HB.out | apply below_alloc | apply pw_below_drewN | apply below_drew1 | refine below_set ?_ GE107.out | refine below_set ?_ GE108.out) | exact HB.out)⟩

-- NOT PRINTED: function 61 (sha_constants)

-- NOT PRINTED: function 75 (sha_schedule)

-- NOT PRINTED: function 62 (sha_state_block)

end Go.Proofs.Ytdbiokmlgniobaa.PL22

namespace Go.Proofs.Ytdbiokmlgniobaa.PL22
open Go.RowKit Go.Proofs.YtdbiokmlgniobaaW.PrintWords Go.Proofs.YtdbiokmlgniobaaW.PrintLast Go.Proofs.YtdbiokmlgniobaaW.PrintMore
attribute [local go_sem] max2_int min2_int max_two min_two max_three min_three max_four min_four   -- for this text's walks alone
set_option linter.unusedVariables false
set_option linter.unusedSimpArgs false

theorem eqA23 (d : Nat) (w : World) (x0 y0 : Int) (x1 y1 : Int) :
  (Op.equalIn (d + 2) 23 (.agg #[.int .i64 x0, .int .i64 x1]) (.agg #[.int .i64 y0, .int .i64 y1])).run Try.prog w = .ok (x0 == y0 && (x1 == y1)) w := by
 refine eqA_of Try.underlying23 (by kernel_rfl) ?_
 refine eqf_cons (by rfl) (by go_simp; rfl) (by go_simp; rfl) (by go_simp) ?_
 exact eqf_last (by rfl) (by go_simp; rfl) (by go_simp; rfl) (by go_simp)
end Go.Proofs.Ytdbiokmlgniobaa.PL22
