/- Printed for this claim by a program of this session over the kit's print program: the Go functions as Lean functions, and proofs that the calls come to these answers. No conditions. -/
import Derived.Test.YtbpnkgidlmjkkaaZB
import Derived.Test.YtbpnkgidlmjkkaaZPL08x0
namespace Go.Proofs.Ytbpnkgidlmjkkaa.PL08
open Go.RowKit Go.Proofs.YtbpnkgidlmjkkaaW.PrintWords Go.Proofs.YtbpnkgidlmjkkaaW.PrintLast Go.Proofs.YtbpnkgidlmjkkaaW.PrintMore
attribute [local go_sem] max2_int min2_int max_two min_two max_three min_three max_four min_four   -- for this text's walks alone
set_option linter.unusedVariables false
set_option linter.unusedSimpArgs false

/-- A builder at block g of W that holds these bytes. -/
def IsS60 (w0 W : World) (g : Nat) (f0 : ByteArray) : Prop := Go.Proofs.YtbpnkgidlmjkkaaB.Bld g (Lib.strCells f0) W ∧ w0.heap.size ≤ g
theorem IsS60.blk {w0 W : World} {g : Nat} {f0 : ByteArray} (h : IsS60 w0 W g f0) : ∃ p v, W.heap[g]? = some (.cells #[p, v] 60 (0, 0)) := by
  rcases h.1 with ⟨_, v, hb, _⟩ | ⟨_, v, hb, _⟩
  · exact ⟨_, _, hb⟩
  · exact ⟨_, _, hb⟩
theorem IsS60.fresh {w0 W : World} {g : Nat} {f0 : ByteArray} (h : IsS60 w0 W g f0) : ∀ k, W.heap.size ≤ k → k ≠ g := by
  obtain ⟨_, _, hb⟩ := h.blk
  exact Kd.freshB hb
theorem IsS60.below {w0 W : World} {g : Nat} {f0 : ByteArray} {W1 : World} (h : IsS60 w0 W g f0) (hw : Below W.heap.size W W1) : IsS60 w0 W1 g f0 := ⟨Go.Proofs.YtbpnkgidlmjkkaaB.bld_below h.1 hw, h.2⟩
theorem IsS60.alloc {w0 W : World} {g : Nat} {f0 : ByteArray} (h : IsS60 w0 W g f0) (o : Obj) : IsS60 w0 (W.alloc o) g f0 := h.below (below_alloc (Below.refl _ _) o)
theorem IsS60.drewN {w0 W : World} {g : Nat} {f0 : ByteArray} (h : IsS60 w0 W g f0) (m : Nat) : IsS60 w0 (W.drewN m) g f0 := ⟨Go.Proofs.YtbpnkgidlmjkkaaB.bld_drewN h.1 m, h.2⟩
theorem IsS60.drew {w0 W : World} {g : Nat} {f0 : ByteArray} (h : IsS60 w0 W g f0) : IsS60 w0 W.drew g f0 := ⟨Go.Proofs.YtbpnkgidlmjkkaaB.bld_below h.1 ⟨rfl, rfl, rfl, Nat.le_refl _, fun _ _ => rfl⟩, h.2⟩
theorem IsS60.at_ {w0 W : World} {g : Nat} {f0 : ByteArray} {w' : World} {m : Nat} (hq : W.drewN m = w') (h : IsS60 w0 W g f0) : IsS60 w0 w' g f0 := by subst hq; exact IsS60.drewN h m
theorem IsS60.apart {w0 W : World} {g : Nat} {f0 : ByteArray} {α : Type} {d : Kd α} {e : Nat} {base : Nat} {ok : Nat → Prop} {v : Value} {xs : List α} (h : IsS60 w0 W g f0) (ho : d.R e W base ok v xs) (ht : ∀ q, q ∈ e :: d.E → q ≠ 60) : d.R e W base (fun k => ok k ∧ k ≠ g) v xs := by
  obtain ⟨_, _, hb⟩ := h.blk
  exact Kd.R_types ho hb ht
theorem IsS60.own_ne {w0 W : World} {g : Nat} {f0 : ByteArray} {α : Type} {d : Kd α} {e : Nat} {base : Nat} {ok : Nat → Prop} {v : Value} {xs : List α} (h : IsS60 w0 W g f0) (ho : d.R e W base ok v xs) (ht : e ≠ 60) : some g ≠ v.ownBlock := by
  obtain ⟨_, _, hb⟩ := h.blk
  exact Kd.R_ne ho hb ht
theorem IsS60.apartQ {w0 W : World} {g : Nat} {f0 : ByteArray} {α : Type} {d : Kd α} {e : Nat} {base : Nat} {ok : Nat → Prop} {v : Value} {xs : List α} (h : IsS60 w0 W g f0) (ho : d.Q e W base ok v xs) (ht : ∀ q, q ∈ e :: d.E → q ≠ 60) : d.Q e W base (fun k => ok k ∧ k ≠ g) v xs := by
  obtain ⟨_, _, hb⟩ := h.blk
  exact Kd.Q_types ho hb ht
theorem IsS60.own_neQ {w0 W : World} {g : Nat} {f0 : ByteArray} {α : Type} {d : Kd α} {e : Nat} {base : Nat} {ok : Nat → Prop} {v : Value} {xs : List α} (h : IsS60 w0 W g f0) (ho : d.Q e W base ok v xs) (ht : e ≠ 60) : some g ≠ v.ownBlock := by
  obtain ⟨_, _, hb⟩ := h.blk
  exact Kd.Q_ne ho hb ht
theorem IsS60.apartS {w0 W : World} {g : Nat} {f0 : ByteArray} {α : Type} {d : Kd α} {e : Nat} {base : Nat} {ok : Nat → Prop} {v : Value} {xs : List α} (h : IsS60 w0 W g f0) (ho : d.S e W base ok v xs) (ht : ∀ q, q ∈ e :: d.E → q ≠ 60) : d.S e W base (fun k => ok k ∧ k ≠ g) v xs := by
  obtain ⟨_, _, hb⟩ := h.blk
  exact Kd.S_types ho hb ht
theorem IsS60.own_neS {w0 W : World} {g : Nat} {f0 : ByteArray} {α : Type} {d : Kd α} {e : Nat} {base : Nat} {ok : Nat → Prop} {v : Value} {xs : List α} (h : IsS60 w0 W g f0) (ho : d.S e W base ok v xs) (ht : e ≠ 60) : some g ≠ v.ownBlock := by
  obtain ⟨_, _, hb⟩ := h.blk
  exact Kd.S_ne ho hb ht
theorem IsS60.lt {w0 W : World} {g : Nat} {f0 : ByteArray} (h : IsS60 w0 W g f0) : g < W.heap.size := Go.Proofs.YtbpnkgidlmjkkaaB.bld_lt h.1
theorem IsS60.ge {w0 W : World} {g : Nat} {f0 : ByteArray} (h : IsS60 w0 W g f0) : w0.heap.size ≤ g := h.2
theorem IsS60.ne_blk {w0 W : World} {g : Nat} {f0 : ByteArray} {a : Nat} {cs : Array Value} {t : TypeId} {fr : Nat × Nat} (h : IsS60 w0 W g f0) (hb2 : W.heap[a]? = some (.cells cs t fr)) (ht : t ≠ 60) : g ≠ a := by
  obtain ⟨_, _, hb⟩ := h.blk
  rintro rfl
  rw [hb] at hb2
  injection hb2 with hb2
  injection hb2 with _ ht2
  exact ht ht2.symm
theorem IsS60.mk {w0 W : World} {g : Nat} (hb : W.heap[g]? = some (.cells #[.pointer none, .slice none 0 0] 60 (0, 0))) (hg : w0.heap.size ≤ g) : IsS60 w0 W g (⟨#[]⟩ : ByteArray) := ⟨Go.Proofs.YtbpnkgidlmjkkaaB.bld_box hb, hg⟩
/-- What a builder's writing leaves: every block but its own and rows of bytes. -/
def BKeep (w w' : World) (g : Nat) : Prop := w.heap.size ≤ w'.heap.size ∧ Lib.OthersKept 5 (some g) w w'
theorem BKeep.blk {w w1 : World} {g g' : Nat} {cs : Array Value} {t : TypeId} {fr : Nat × Nat} (hk : BKeep w w1 g) (hb : w.heap[g']? = some (.cells cs t fr)) (hg : g' ≠ g) (ht : t ≠ 5) : w1.heap[g']? = some (.cells cs t fr) := Go.Proofs.YtbpnkgidlmjkkaaB.kept_block hk.2 hb hg (fun c fz e => by injection e with _ e2; exact ht e2)
theorem BKeep.R {α : Type} {d : Kd α} {w w1 : World} {e base g : Nat} {ok : Nat → Prop} {v : Value} {xs : List α} (h : d.R e w base ok v xs) (hk : BKeep w w1 g) (hok : ∀ k, ok k → k ≠ g) (ht : ∀ q, q ∈ e :: d.E → q ≠ 5) : d.R e w1 base ok v xs := by
  refine Kd.R_mono (Kd.R_step (Kd.R_bound h) (fun k hk' _ => ?_)) (fun _ hk => hk.1)
  obtain ⟨ho, _, _, q, hq, cells, hc⟩ := hk'
  rw [hc]
  exact hk.blk hc (hok k ho) (ht q hq)
/-! ### strings_Builder_String: function 31 -/
def strings_Builder_String.f (s0_0 : ByteArray) : Option (ByteArray × ByteArray) := some (s0_0, s0_0)
theorem strings_Builder_String.calls (g : Nat) (s0_0 : ByteArray) (r1 : ByteArray) (r2 : ByteArray) (w0 w : World) (hI : IsS60 w0 w g s0_0) (hB : Below w0.heap.size w0 w) (h : strings_Builder_String.f s0_0 = some (r1, r2)) :
    Calls Try.prog 31 #[.pointer (some ⟨g, 0, none⟩)] w fun e w' => e = .returned (.string r1) ∧ IsS60 w0 w' g r2 ∧ Below w0.heap.size w0 w' ∧ BKeep w w' g := by
  unfold strings_Builder_String.f at h
  simp only [Option.some.injEq, Prod.mk.injEq] at h
  obtain ⟨rfl, rfl⟩ := h
  refine (Go.Proofs.YtbpnkgidlmjkkaaB.String_calls g s0_0 w hI.1).mono ?_
  rintro e w' ⟨rfl, h1, h2, h3⟩
  exact ⟨rfl, ⟨h1, hI.2⟩, hB.trans (h2.mono hI.2), h2.size, h3⟩

end Go.Proofs.Ytbpnkgidlmjkkaa.PL08
