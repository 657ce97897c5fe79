/- Printed for this claim by a program of this session over the kit's print program: the Go functions as Lean functions, and proofs that the calls come to these answers. No conditions. -/
import Derived.Test.YtbonmhgihedjpaaXB
import Derived.Test.YtbonmhgihedjpaaXPL15x0
namespace Go.Proofs.Ytbonmhgihedjpaa.PL15
open Go.RowKit Go.Proofs.YtbonmhgihedjpaaW.PrintWords Go.Proofs.YtbonmhgihedjpaaW.PrintLast Go.Proofs.YtbonmhgihedjpaaW.PrintMore
attribute [local go_sem] max2_int min2_int max_two min_two max_three min_three max_four min_four   -- for this text's walks alone
set_option linter.unusedVariables false
set_option linter.unusedSimpArgs false

-- NOT PRINTED: function 51 (abi_NoEscape)

-- NOT PRINTED: function 41 (strings_Builder_copyCheck)

def IsS49 (w0 W : World) (g : Nat) (f0 : ByteArray) : Prop := Go.Proofs.YtbonmhgihedjpaaB.Bld g (Lib.strCells f0) W ∧ w0.heap.size ≤ g
theorem IsS49.blk {w0 W : World} {g : Nat} {f0 : ByteArray} (h : IsS49 w0 W g f0) : ∃ p v, W.heap[g]? = some (.cells #[p, v] 49 (0, 0)) := by
 rcases h.1 with ⟨_, v, hb, _⟩ | ⟨_, v, hb, _⟩
 ·exact ⟨_, _, hb⟩
 ·exact ⟨_, _, hb⟩
theorem IsS49.fresh {w0 W : World} {g : Nat} {f0 : ByteArray} (h : IsS49 w0 W g f0) : ∀ k, W.heap.size ≤ k → k ≠ g := by
 obtain ⟨_, _, hb⟩ := h.blk
 exact Kd.freshB hb
theorem IsS49.below {w0 W : World} {g : Nat} {f0 : ByteArray} {W1 : World} (h : IsS49 w0 W g f0) (hw : Below W.heap.size W W1) : IsS49 w0 W1 g f0 := ⟨Go.Proofs.YtbonmhgihedjpaaB.bld_below h.1 hw, h.2⟩
theorem IsS49.alloc {w0 W : World} {g : Nat} {f0 : ByteArray} (h : IsS49 w0 W g f0) (o : Obj) : IsS49 w0 (W.alloc o) g f0 := h.below (below_alloc (Below.refl _ _) o)
theorem IsS49.drewN {w0 W : World} {g : Nat} {f0 : ByteArray} (h : IsS49 w0 W g f0) (m : Nat) : IsS49 w0 (W.drewN m) g f0 := ⟨Go.Proofs.YtbonmhgihedjpaaB.bld_drewN h.1 m, h.2⟩
theorem IsS49.drew {w0 W : World} {g : Nat} {f0 : ByteArray} (h : IsS49 w0 W g f0) : IsS49 w0 W.drew g f0 := ⟨Go.Proofs.YtbonmhgihedjpaaB.bld_below h.1 ⟨rfl, rfl, rfl, Nat.le_refl _, fun _ _ => rfl⟩, h.2⟩
theorem IsS49.at_ {w0 W : World} {g : Nat} {f0 : ByteArray} {w' : World} {m : Nat} (hq : W.drewN m = w') (h : IsS49 w0 W g f0) : IsS49 w0 w' g f0 := by subst hq; exact IsS49.drewN h m
theorem IsS49.apart {w0 W : World} {g : Nat} {f0 : ByteArray} {α : Type} {d : Kd α} {e : Nat} {base : Nat} {ok : Nat → Prop} {v : Value} {xs : List α} (h : IsS49 w0 W g f0) (ho : d.R e W base ok v xs) (ht : ∀ q, q ∈ e :: d.E → q ≠ 49) : d.R e W base (fun k => ok k ∧ k ≠ g) v xs := by
 obtain ⟨_, _, hb⟩ := h.blk
 exact Kd.R_types ho hb ht
theorem IsS49.own_ne {w0 W : World} {g : Nat} {f0 : ByteArray} {α : Type} {d : Kd α} {e : Nat} {base : Nat} {ok : Nat → Prop} {v : Value} {xs : List α} (h : IsS49 w0 W g f0) (ho : d.R e W base ok v xs) (ht : e ≠ 49) : some g ≠ v.ownBlock := by
 obtain ⟨_, _, hb⟩ := h.blk
 exact Kd.R_ne ho hb ht
theorem IsS49.apartQ {w0 W : World} {g : Nat} {f0 : ByteArray} {α : Type} {d : Kd α} {e : Nat} {base : Nat} {ok : Nat → Prop} {v : Value} {xs : List α} (h : IsS49 w0 W g f0) (ho : d.Q e W base ok v xs) (ht : ∀ q, q ∈ e :: d.E → q ≠ 49) : d.Q e W base (fun k => ok k ∧ k ≠ g) v xs := by
 obtain ⟨_, _, hb⟩ := h.blk
 exact Kd.Q_types ho hb ht
theorem IsS49.own_neQ {w0 W : World} {g : Nat} {f0 : ByteArray} {α : Type} {d : Kd α} {e : Nat} {base : Nat} {ok : Nat → Prop} {v : Value} {xs : List α} (h : IsS49 w0 W g f0) (ho : d.Q e W base ok v xs) (ht : e ≠ 49) : some g ≠ v.ownBlock := by
 obtain ⟨_, _, hb⟩ := h.blk
 exact Kd.Q_ne ho hb ht
theorem IsS49.apartS {w0 W : World} {g : Nat} {f0 : ByteArray} {α : Type} {d : Kd α} {e : Nat} {base : Nat} {ok : Nat → Prop} {v : Value} {xs : List α} (h : IsS49 w0 W g f0) (ho : d.S e W base ok v xs) (ht : ∀ q, q ∈ e :: d.E → q ≠ 49) : d.S e W base (fun k => ok k ∧ k ≠ g) v xs := by
 obtain ⟨_, _, hb⟩ := h.blk
 exact Kd.S_types ho hb ht
theorem IsS49.own_neS {w0 W : World} {g : Nat} {f0 : ByteArray} {α : Type} {d : Kd α} {e : Nat} {base : Nat} {ok : Nat → Prop} {v : Value} {xs : List α} (h : IsS49 w0 W g f0) (ho : d.S e W base ok v xs) (ht : e ≠ 49) : some g ≠ v.ownBlock := by
 obtain ⟨_, _, hb⟩ := h.blk
 exact Kd.S_ne ho hb ht
theorem IsS49.lt {w0 W : World} {g : Nat} {f0 : ByteArray} (h : IsS49 w0 W g f0) : g < W.heap.size := Go.Proofs.YtbonmhgihedjpaaB.bld_lt h.1
theorem IsS49.ge {w0 W : World} {g : Nat} {f0 : ByteArray} (h : IsS49 w0 W g f0) : w0.heap.size ≤ g := h.2
theorem IsS49.ne_blk {w0 W : World} {g : Nat} {f0 : ByteArray} {a : Nat} {cs : Array Value} {t : TypeId} {fr : Nat × Nat} (h : IsS49 w0 W g f0) (hb2 : W.heap[a]? = some (.cells cs t fr)) (ht : t ≠ 49) : g ≠ a := by
 obtain ⟨_, _, hb⟩ := h.blk
 rintro rfl
 rw [hb] at hb2
 injection hb2 with hb2
 injection hb2 with _ ht2
 exact ht ht2.symm
theorem IsS49.mk {w0 W : World} {g : Nat} (hb : W.heap[g]? = some (.cells #[.pointer none, .slice none 0 0] 49 (0, 0))) (hg : w0.heap.size ≤ g) : IsS49 w0 W g (⟨#[]⟩ : ByteArray) := ⟨Go.Proofs.YtbonmhgihedjpaaB.bld_box hb, hg⟩
def BKeep (w w' : World) (g : Nat) : Prop := w.heap.size ≤ w'.heap.size ∧ Lib.OthersKept 5 (some g) w w'
theorem BKeep.blk {w w1 : World} {g g' : Nat} {cs : Array Value} {t : TypeId} {fr : Nat × Nat} (hk : BKeep w w1 g) (hb : w.heap[g']? = some (.cells cs t fr)) (hg : g' ≠ g) (ht : t ≠ 5) : w1.heap[g']? = some (.cells cs t fr) := Go.Proofs.YtbonmhgihedjpaaB.kept_block hk.2 hb hg (fun c fz e => by injection e with _ e2; exact ht e2)
theorem BKeep.R {α : Type} {d : Kd α} {w w1 : World} {e base g : Nat} {ok : Nat → Prop} {v : Value} {xs : List α} (h : d.R e w base ok v xs) (hk : BKeep w w1 g) (hok : ∀ k, ok k → k ≠ g) (ht : ∀ q, q ∈ e :: d.E → q ≠ 5) : d.R e w1 base ok v xs := by
 refine Kd.R_mono (Kd.R_step (Kd.R_bound h) (fun k hk' _ => ?_)) (fun _ hk => hk.1)
 obtain ⟨ho, _, _, q, hq, cells, hc⟩ := hk'
 rw [hc]
 exact hk.blk hc (hok k ho) (ht q hq)
def strings_Builder_WriteString.f (s0_0 : ByteArray) (a1 : ByteArray) : Option (Int × Option Int × ByteArray) := if s0_0.size + a1.size ≤ 140737488355328 then some ((a1.size : Int), none, s0_0 ++ a1) else none
theorem strings_Builder_WriteString.calls (g : Nat) (s0_0 : ByteArray) (a1 : ByteArray) (r1 : Int) (r2 : Option Int) (r3 : ByteArray) (w0 w : World) (hI : IsS49 w0 w g s0_0) (hB : Below w0.heap.size w0 w) (h : strings_Builder_WriteString.f s0_0 a1 = some (r1, r2, r3)) :
  Calls Try.prog 27 #[.pointer (some ⟨g, 0, none⟩), .string a1] w fun e w' => e = .returned (.tuple #[.int .i64 r1, errW r2]) ∧ IsS49 w0 w' g r3 ∧ Below w0.heap.size w0 w' ∧ BKeep w w' g := by
 unfold strings_Builder_WriteString.f at h
 by_cases hc : s0_0.size + a1.size ≤ 140737488355328
 ·rw [if_pos hc] at h
  simp only [Option.some.injEq, Prod.mk.injEq] at h
  obtain ⟨rfl, rfl, rfl⟩ := h
  refine (Go.Proofs.YtbonmhgihedjpaaB.WriteString_calls g (Lib.strCells s0_0) a1 w hI.1 (by rw [Lib.strCells_length]; exact hc)).mono ?_
  rintro e w' ⟨rfl, h1, h2, h3⟩
  refine ⟨rfl, ⟨by rw [Go.Proofs.YtbonmhgihedjpaaB.cells_add]; exact h1, hI.2⟩, hB.trans (h2.mono hI.2), h2.size, h3⟩
 ·rw [if_neg hc] at h
  exact absurd h (by simp)

def bands_big.f (a0 : Int) : Option (ByteArray) := some (strOfNums (([(a0 / 16777216) % 256, (a0 / 65536) % 256, (a0 / 256) % 256, (a0) % 256] : List Int)))
set_option maxHeartbeats 40000000 in
set_option maxRecDepth 100000 in
theorem bands_big.calls (a0 : Int) (r : ByteArray) (w : World) (h : bands_big.f a0 = some r) :
  Calls Try.prog 28 #[.int .i64 a0] w fun e w' => e = .returned (.string r) ∧ Below w.heap.size w w' := by
 have HB := Aside0.mk (Below.refl w.heap.size w)
 have H : (some (strOfNums (([(a0 / 16777216) % 256, (a0 / 65536) % 256, (a0 / 256) % 256, (a0) % 256] : List Int)))) = some r := h
 clear h
 obtain ⟨y145, hy145⟩ : ∃ y_ : List Int, y_ = (([(a0 / 16777216) % 256, (a0 / 65536) % 256, (a0 / 256) % 256, (a0) % 256] : List Int)) := ⟨_, rfl⟩
 replace H : (some (strOfNums y145)) = some r := by first | (rw [hy145]; with_reducible exact H) | (have H2_ := (Option.bind_some _ _).symm.trans H; rw [hy145]; with_reducible exact H2_) | (have H2_ := (Option.bind_some _ _).symm.trans H; with_reducible exact H2_) | with_reducible exact H | (rw [hy145]; exact H) | exact H
 have Ny145 := Aside0.mk hy145
 clear hy145
 obtain rfl := Option.some.inj H
 go_enter Try.func28, Try.ntmps28
 go_wp2_with (first | ((with_reducible refine gate_dst (N := 14) rfl ?_); refine Kd.R_lit (Kd.int .u8) _ 5 ?hg (N := 14) ?hd (xs := ([(a0 / 16777216) % 256, (a0 / 65536) % 256, (a0 / 256) % 256, (a0) % 256] : List Int)) (inner := [.int .u8 ((a0 / 16777216) % 256), .int .u8 ((a0 / 65536) % 256), .int .u8 ((a0 / 256) % 256), .int .u8 ((a0) % 256)]) (ok := fun _ => True) (okp := fun _ => True) ?hr ?hp (fun _ hk => hk) trivial (Below.refl _ _) (Nat.le_refl _) (by simp) ?_; (case hd => rfl); (case hg => rfl); (case hr => first | (go_simp; done) | (go_simp; rfl)); (case hp => exact (Reps.one (show Kd.M (Kd.int .u8) _ _ _ ((a0 / 16777216) % 256) [.int .u8 ((a0 / 16777216) % 256)] from rfl) (Reps.one (show Kd.M (Kd.int .u8) _ _ _ ((a0 / 65536) % 256) [.int .u8 ((a0 / 65536) % 256)] from rfl) (Reps.one (show Kd.M (Kd.int .u8) _ _ _ ((a0 / 256) % 256) [.int .u8 ((a0 / 256) % 256)] from rfl) (Reps.one (show Kd.M (Kd.int .u8) _ _ _ ((a0) % 256) [.int .u8 ((a0) % 256)] from rfl) (Reps.none _ _)))))); intro v146 w2 ho3 hb hg_ hnew_; clear hg_ hnew_; (first | rw [← Ny145.out] at ho3 | (simp only [Int.reduceToNat] at ho3; rw [← Ny145.out] at ho3)); have n0_ := Aside0.mk (Kd.R_lower ho3 (below_size (by repeat (first | (with_reducible first | exact HB.out | apply below_alloc | apply pw_below_drewN | apply below_drew1) | exact HB.out)))); have n1_ := Aside0.mk (below_step (by repeat (first | (with_reducible first | exact HB.out | apply below_alloc | apply pw_below_drewN | apply below_drew1) | exact HB.out)) hb); clear HB; have HO147 := n0_; have HB := n1_; clear n0_ n1_; clear hb ho3; have hcv4 := own_string (P := Try.prog) Try.underlying47 Try.underlying5 Try.underlying9 (Kd.own_of_R HO147.out)))
 go_ret
 exact ⟨by first | rfl | (simp [errW_none, errW_some] <;> rfl) | (simp [*, errW_none, errW_some] <;> rfl), by repeat (first | (with_reducible first | exact HB.out | apply below_alloc | apply pw_below_drewN | apply below_drew1) | exact HB.out)⟩

def strings_Builder_String.f (s0_0 : ByteArray) : Option (ByteArray × ByteArray) := some (s0_0, s0_0)
theorem strings_Builder_String.calls (g : Nat) (s0_0 : ByteArray) (r1 : ByteArray) (r2 : ByteArray) (w0 w : World) (hI : IsS49 w0 w g s0_0) (hB : Below w0.heap.size w0 w) (h : strings_Builder_String.f s0_0 = some (r1, r2)) :
  Calls Try.prog 29 #[.pointer (some ⟨g, 0, none⟩)] w fun e w' => e = .returned (.string r1) ∧ IsS49 w0 w' g r2 ∧ Below w0.heap.size w0 w' ∧ BKeep w w' g := by
 unfold strings_Builder_String.f at h
 simp only [Option.some.injEq, Prod.mk.injEq] at h
 obtain ⟨rfl, rfl⟩ := h
 refine (Go.Proofs.YtbonmhgihedjpaaB.String_calls g s0_0 w hI.1).mono ?_
 rintro e w' ⟨rfl, h1, h2, h3⟩
 exact ⟨rfl, ⟨h1, hI.2⟩, hB.trans (h2.mono hI.2), h2.size, h3⟩

end Go.Proofs.Ytbonmhgihedjpaa.PL15
