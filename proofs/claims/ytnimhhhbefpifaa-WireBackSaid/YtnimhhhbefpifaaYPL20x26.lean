/- Printed for this claim by a program of this session over the kit's print program: the Go functions as Lean functions, and proofs that the calls come to these answers. No conditions. -/
import Derived.Test.YtnimhhhbefpifaaYPL20x0
import Derived.Test.YtnimhhhbefpifaaYPL20x11
namespace Go.Proofs.Ytnimhhhbefpifaa.PL20
open Go.RowKit Go.Proofs.YtnimhhhbefpifaaW.PrintWords Go.Proofs.YtnimhhhbefpifaaW.PrintLast Go.Proofs.YtnimhhhbefpifaaW.PrintMore
attribute [local go_sem] max2_int min2_int max_two min_two max_three min_three max_four min_four   -- for this text's walks alone
set_option linter.unusedVariables false
set_option linter.unusedSimpArgs false

/-- A state of type 59 at block g of W; what its slices lead to came in by w0. -/
def IsS59 (w0 W : World) (g : Nat) (f0 : ByteArray) (f1 : Bool) : Prop := W.heap[g]? = some (.cells #[.string f0, .bool f1] 59 (0, 0)) ∧ w0.heap.size ≤ g
theorem IsS59.grown {w0 W : World} {g : Nat} {f0 : ByteArray} {f1 : Bool} {W1 : World} {row : Option Nat} (h : IsS59 w0 W g f0 f1) (hw : W.grownBy W1 row) (hne : some g ≠ row) : IsS59 w0 W1 g f0 f1 := by
  obtain ⟨hb, hg⟩ := h
  exact ⟨blk_grown hb hw hne, hg⟩
theorem IsS59.own_neN {w0 W : World} {g : Nat} {f0 : ByteArray} {f1 : Bool} {α : Type} {d : Kd α} {e : Nat} {base : Nat} {ok : Nat → Prop} {v : Value} {xs : List α} (h : IsS59 w0 W g f0 f1) (ho : Kd.N d e W base ok v xs) (ht : e ≠ 59) : some g ≠ v.ownBlock := by
  obtain ⟨hb, hg⟩ := h
  exact Kd.N_ne ho hb ht
theorem IsS59.fresh {w0 W : World} {g : Nat} {f0 : ByteArray} {f1 : Bool} (h : IsS59 w0 W g f0 f1) : ∀ k, W.heap.size ≤ k → k ≠ g := by
  obtain ⟨hb, hg⟩ := h
  exact Kd.freshB hb
theorem IsS59.kept {w0 W : World} {g : Nat} {f0 : ByteArray} {f1 : Bool} {W1 : World} {S : Nat → Prop} (h : IsS59 w0 W g f0 f1) (hk : Kept W W1 S) (hne : ¬ S g) : IsS59 w0 W1 g f0 f1 := by
  obtain ⟨hb, hg⟩ := h
  exact ⟨blk_kept hb hk hne, hg⟩
theorem IsS59.below {w0 W : World} {g : Nat} {f0 : ByteArray} {f1 : Bool} {W1 : World} (h : IsS59 w0 W g f0 f1) (hw : Below W.heap.size W W1) : IsS59 w0 W1 g f0 f1 := h.grown (grown_of_below hw none) (by simp)
theorem IsS59.alloc {w0 W : World} {g : Nat} {f0 : ByteArray} {f1 : Bool} (h : IsS59 w0 W g f0 f1) (o : Obj) : IsS59 w0 (W.alloc o) g f0 f1 := h.below (below_alloc (Below.refl _ _) o)
theorem IsS59.drewN {w0 W : World} {g : Nat} {f0 : ByteArray} {f1 : Bool} (h : IsS59 w0 W g f0 f1) (m : Nat) : IsS59 w0 (W.drewN m) g f0 f1 := h
theorem IsS59.drew {w0 W : World} {g : Nat} {f0 : ByteArray} {f1 : Bool} (h : IsS59 w0 W g f0 f1) : IsS59 w0 W.drew g f0 f1 := h
theorem IsS59.at_ {w0 W : World} {g : Nat} {f0 : ByteArray} {f1 : Bool} {w' : World} {m : Nat} (hq : W.drewN m = w') (h : IsS59 w0 W g f0 f1) : IsS59 w0 w' g f0 f1 := by subst hq; exact IsS59.drewN h m
theorem IsS59.apart {w0 W : World} {g : Nat} {f0 : ByteArray} {f1 : Bool} {α : Type} {d : Kd α} {e : Nat} {base : Nat} {ok : Nat → Prop} {v : Value} {xs : List α} (h : IsS59 w0 W g f0 f1) (ho : d.R e W base ok v xs) (ht : ∀ q, q ∈ e :: d.E → q ≠ 59) : d.R e W base (fun k => ok k ∧ k ≠ g) v xs := by
  obtain ⟨hb, hg⟩ := h
  exact Kd.R_types ho hb ht
theorem IsS59.own_ne {w0 W : World} {g : Nat} {f0 : ByteArray} {f1 : Bool} {α : Type} {d : Kd α} {e : Nat} {base : Nat} {ok : Nat → Prop} {v : Value} {xs : List α} (h : IsS59 w0 W g f0 f1) (ho : d.R e W base ok v xs) (ht : e ≠ 59) : some g ≠ v.ownBlock := by
  obtain ⟨hb, hg⟩ := h
  exact Kd.R_ne ho hb ht
theorem IsS59.apartQ {w0 W : World} {g : Nat} {f0 : ByteArray} {f1 : Bool} {α : Type} {d : Kd α} {e : Nat} {base : Nat} {ok : Nat → Prop} {v : Value} {xs : List α} (h : IsS59 w0 W g f0 f1) (ho : d.Q e W base ok v xs) (ht : ∀ q, q ∈ e :: d.E → q ≠ 59) : d.Q e W base (fun k => ok k ∧ k ≠ g) v xs := by
  obtain ⟨hb, hg⟩ := h
  exact Kd.Q_types ho hb ht
theorem IsS59.own_neQ {w0 W : World} {g : Nat} {f0 : ByteArray} {f1 : Bool} {α : Type} {d : Kd α} {e : Nat} {base : Nat} {ok : Nat → Prop} {v : Value} {xs : List α} (h : IsS59 w0 W g f0 f1) (ho : d.Q e W base ok v xs) (ht : e ≠ 59) : some g ≠ v.ownBlock := by
  obtain ⟨hb, hg⟩ := h
  exact Kd.Q_ne ho hb ht
theorem IsS59.apartS {w0 W : World} {g : Nat} {f0 : ByteArray} {f1 : Bool} {α : Type} {d : Kd α} {e : Nat} {base : Nat} {ok : Nat → Prop} {v : Value} {xs : List α} (h : IsS59 w0 W g f0 f1) (ho : d.S e W base ok v xs) (ht : ∀ q, q ∈ e :: d.E → q ≠ 59) : d.S e W base (fun k => ok k ∧ k ≠ g) v xs := by
  obtain ⟨hb, hg⟩ := h
  exact Kd.S_types ho hb ht
theorem IsS59.own_neS {w0 W : World} {g : Nat} {f0 : ByteArray} {f1 : Bool} {α : Type} {d : Kd α} {e : Nat} {base : Nat} {ok : Nat → Prop} {v : Value} {xs : List α} (h : IsS59 w0 W g f0 f1) (ho : d.S e W base ok v xs) (ht : e ≠ 59) : some g ≠ v.ownBlock := by
  obtain ⟨hb, hg⟩ := h
  exact Kd.S_ne ho hb ht
theorem IsS59.lt {w0 W : World} {g : Nat} {f0 : ByteArray} {f1 : Bool} (h : IsS59 w0 W g f0 f1) : g < W.heap.size := by
  obtain ⟨hb, hg⟩ := h
  exact blk_lt hb
theorem IsS59.ge {w0 W : World} {g : Nat} {f0 : ByteArray} {f1 : Bool} (h : IsS59 w0 W g f0 f1) : w0.heap.size ≤ g := by
  obtain ⟨hb, hg⟩ := h
  exact hg
theorem IsS59.ne_blk {w0 W : World} {g : Nat} {f0 : ByteArray} {f1 : Bool} {a : Nat} {cs : Array Value} {t : TypeId} {fr : Nat × Nat} (h : IsS59 w0 W g f0 f1) (hb2 : W.heap[a]? = some (.cells cs t fr)) (ht : t ≠ 59) : g ≠ a := by
  obtain ⟨hb, hg⟩ := h
  rintro rfl
  rw [hb] at hb2
  injection hb2 with hb2
  injection hb2 with _ ht2
  exact ht ht2.symm
theorem IsS59.far {w0 W : World} {g : Nat} {f0 : ByteArray} {f1 : Bool} {p : Addr} (h : IsS59 w0 W g f0 f1) (hne : g ≠ p.block) (u : Value) : IsS59 w0 (W.setCell p u) g f0 f1 := by
  obtain ⟨hb, hg⟩ := h
  exact ⟨blk_far hb hne u, hg⟩
theorem cellS59_0 {W : World} {g : Nat} {f0 : ByteArray} {f1 : Bool} (h : W.heap[g]? = some (.cells #[.string f0, .bool f1] 59 (0, 0))) : W.cell? ⟨g, 0, none⟩ = some (.string f0) := (blk_cell h 0).trans rfl
theorem IsS59.set_0 {w0 W : World} {g : Nat} {f0 : ByteArray} {f1 : Bool} (h : IsS59 w0 W g f0 f1) (x : ByteArray) : IsS59 w0 (W.setCell ⟨g, 0, none⟩ (.string x)) g x f1 := by
  obtain ⟨hb, hg⟩ := h
  exact ⟨by simpa using blk_set hb 0 (.string x), hg⟩
theorem cellS59_1 {W : World} {g : Nat} {f0 : ByteArray} {f1 : Bool} (h : W.heap[g]? = some (.cells #[.string f0, .bool f1] 59 (0, 0))) : W.cell? ⟨g, 1, none⟩ = some (.bool f1) := (blk_cell h 1).trans rfl
theorem IsS59.set_1 {w0 W : World} {g : Nat} {f0 : ByteArray} {f1 : Bool} (h : IsS59 w0 W g f0 f1) (x : Bool) : IsS59 w0 (W.setCell ⟨g, 1, none⟩ (.bool x)) g f0 x := by
  obtain ⟨hb, hg⟩ := h
  exact ⟨by simpa using blk_set hb 1 (.bool x), hg⟩
theorem IsS59.new (w0 W : World) (f0 : ByteArray) (f1 : Bool) (hB : Below w0.heap.size w0 W) : IsS59 w0 (W.alloc (.cells #[.string f0, .bool f1] 59)) W.heap.size f0 f1 := ⟨by simpa using heap_alloc_new W _, hB.size⟩

/-! ### vitrineref20_reader_text: function 31 -/
def vitrineref20_reader_text.f (s0_0 : ByteArray) (s0_1 : Bool) (a1 : Int) : Option (ByteArray × ByteArray × Bool) := if s0_1 = true then (some ((⟨#[]⟩ : ByteArray), s0_0, true)) else (if a1 < 0 then (some ((⟨#[]⟩ : ByteArray), s0_0, true)) else (if a1 > (s0_0.size : Int) then (some ((⟨#[]⟩ : ByteArray), s0_0, true)) else (if 0 ≤ a1 then (if a1 ≤ (s0_0.size : Int) then (some (s0_0.extract 0 (a1 : Int).toNat, s0_0.extract (a1 : Int).toNat s0_0.size, s0_1)) else (none)) else (none))))
set_option maxHeartbeats 40000000 in
set_option maxRecDepth 100000 in
theorem vitrineref20_reader_text.calls (g : Nat) (s0_0 : ByteArray) (s0_1 : Bool) (a1 : Int) (r1 : ByteArray) (r2 : ByteArray) (r3 : Bool) (w0 w : World) (hI : IsS59 w0 w g s0_0 s0_1) (hB : Below w0.heap.size w0 w) (h : vitrineref20_reader_text.f s0_0 s0_1 a1 = some (r1, r2, r3)) :
    Calls Try.prog 31 #[.pointer (some ⟨g, 0, none⟩), .int .i64 a1] w fun e w' => e = .returned (.string r1) ∧ IsS59 w0 w' g r2 r3 ∧ Below w0.heap.size w0 w' ∧ KeepBut w w' g none := by
  have HI0 := Aside0.mk hI
  have HK := Aside0.mk (KeepBut.refl w g none)
  have HL := Aside0.mk hB.size
  clear hI
  have HW0 := Aside0.mk hB.size
  have HB := Aside0.mk hB
  clear hB
  have H : (if s0_1 = true then (some ((⟨#[]⟩ : ByteArray), s0_0, true)) else (if a1 < 0 then (some ((⟨#[]⟩ : ByteArray), s0_0, true)) else (if a1 > (s0_0.size : Int) then (some ((⟨#[]⟩ : ByteArray), s0_0, true)) else (if 0 ≤ a1 then (if a1 ≤ (s0_0.size : Int) then (some (s0_0.extract 0 (a1 : Int).toNat, s0_0.extract (a1 : Int).toNat s0_0.size, s0_1)) else (none)) else (none))))) = some (r1, r2, r3) := h
  clear h
  by_cases c3 : s0_1 = true
  · subst c3
    have H1 : (some ((⟨#[]⟩ : ByteArray), s0_0, true)) = some (r1, r2, r3) := by rw [if_pos rfl] at H; exact H
    clear H
    have H := H1
    clear H1
    simp only [Option.some.injEq, Prod.mk.injEq] at H
    obtain ⟨rfl, rfl, rfl⟩ := H
    obtain ⟨HGz4, hgz4⟩ := HI0.out
    have hcz4_0 := cellS59_0 HGz4
    have hcz4_1 := cellS59_1 HGz4
    have hfz4_0 := blk_frozen HGz4 0
    have hfz4_1 := blk_frozen HGz4 1
    clear HGz4 hgz4
    go_enter Try.func31, Try.ntmps31
    go_wp2
    go_ret
    exact ⟨by first | rfl | (simp [errW_none, errW_some] <;> rfl) | (simp [*, errW_none, errW_some] <;> rfl), by repeat (first | (with_reducible first | exact HI0.out | apply IsS59.alloc | apply IsS59.drewN | apply IsS59.drew | apply IsS59.set_0 | apply IsS59.set_1) | exact HI0.out), by repeat (first | (with_reducible first | exact HB.out | apply below_alloc | apply pw_below_drewN | apply below_drew1 | refine below_set ?_ (IsS59.ge HI0.out)) | exact HB.out), by repeat (first | (with_reducible first | exact HK.out | apply KeepBut.set_ | apply keep_drewN | apply keep_drew | apply keep_alloc) | exact HK.out)⟩
  · replace c3 := Bool.eq_false_iff.mpr c3
    subst c3
    have H1 : (if a1 < 0 then (some ((⟨#[]⟩ : ByteArray), s0_0, true)) else (if a1 > (s0_0.size : Int) then (some ((⟨#[]⟩ : ByteArray), s0_0, true)) else (if 0 ≤ a1 then (if a1 ≤ (s0_0.size : Int) then (some (s0_0.extract 0 (a1 : Int).toNat, s0_0.extract (a1 : Int).toNat s0_0.size, false)) else (none)) else (none)))) = some (r1, r2, r3) := by rw [if_neg (show ¬ (false = true) by decide)] at H; exact H
    clear H
    have H := H1
    clear H1
    by_cases c5 : a1 < 0
    · rw [if_pos c5] at H
      have c5b0 : decide (a1 < 0) = true := decide_eq_true c5
      clear c5
      simp only [Option.some.injEq, Prod.mk.injEq] at H
      obtain ⟨rfl, rfl, rfl⟩ := H
      obtain ⟨HGz6, hgz6⟩ := HI0.out
      have hcz6_0 := cellS59_0 HGz6
      have hcz6_1 := cellS59_1 HGz6
      have hfz6_0 := blk_frozen HGz6 0
      have hfz6_1 := blk_frozen HGz6 1
      clear HGz6 hgz6
      go_enter Try.func31, Try.ntmps31
      go_wp2
      go_ret
      exact ⟨by first | rfl | (simp [errW_none, errW_some] <;> rfl) | (simp [*, errW_none, errW_some] <;> rfl), by repeat (first | (with_reducible first | exact HI0.out | apply IsS59.alloc | apply IsS59.drewN | apply IsS59.drew | apply IsS59.set_0 | apply IsS59.set_1) | exact HI0.out), by repeat (first | (with_reducible first | exact HB.out | apply below_alloc | apply pw_below_drewN | apply below_drew1 | refine below_set ?_ (IsS59.ge HI0.out)) | exact HB.out), by repeat (first | (with_reducible first | exact HK.out | apply KeepBut.set_ | apply keep_drewN | apply keep_drew | apply keep_alloc) | exact HK.out)⟩
    · rw [if_neg c5] at H
      have c5b0 : decide (a1 < 0) = false := decide_eq_false c5
      clear c5
      by_cases c7 : a1 > (s0_0.size : Int)
      · rw [if_pos c7] at H
        have c7b0 : decide ((s0_0.size : Int) < a1) = true := decide_eq_true c7
        clear c7
        simp only [Option.some.injEq, Prod.mk.injEq] at H
        obtain ⟨rfl, rfl, rfl⟩ := H
        obtain ⟨HGz8, hgz8⟩ := HI0.out
        have hcz8_0 := cellS59_0 HGz8
        have hcz8_1 := cellS59_1 HGz8
        have hfz8_0 := blk_frozen HGz8 0
        have hfz8_1 := blk_frozen HGz8 1
        clear HGz8 hgz8
        go_enter Try.func31, Try.ntmps31
        go_wp2
        go_ret
        exact ⟨by first | rfl | (simp [errW_none, errW_some] <;> rfl) | (simp [*, errW_none, errW_some] <;> rfl), by repeat (first | (with_reducible first | exact HI0.out | apply IsS59.alloc | apply IsS59.drewN | apply IsS59.drew | apply IsS59.set_0 | apply IsS59.set_1) | exact HI0.out), by repeat (first | (with_reducible first | exact HB.out | apply below_alloc | apply pw_below_drewN | apply below_drew1 | refine below_set ?_ (IsS59.ge HI0.out)) | exact HB.out), by repeat (first | (with_reducible first | exact HK.out | apply KeepBut.set_ | apply keep_drewN | apply keep_drew | apply keep_alloc) | exact HK.out)⟩
      · rw [if_neg c7] at H
        have c7b0 : decide ((s0_0.size : Int) < a1) = false := decide_eq_false c7
        clear c7
        by_cases c9 : 0 ≤ a1
        · rw [if_pos c9] at H
          have c9b0 := eq_true c9
          have c9b1 : decide (0 ≤ a1) = true := decide_eq_true c9
          clear c9
          by_cases c10 : a1 ≤ (s0_0.size : Int)
          · rw [if_pos c10] at H
            have c10b0 := eq_true c10
            have c10b1 : decide (a1 ≤ (s0_0.size : Int)) = true := decide_eq_true c10
            clear c10
            have c11b0 := eq_true (of_decide_eq_true (by first | (with_reducible assumption) | assumption) : 0 ≤ a1)
            have c12b0 := eq_true (of_decide_eq_true (by first | (with_reducible assumption) | assumption) : a1 ≤ (s0_0.size : Int))
            simp only [Option.some.injEq, Prod.mk.injEq] at H
            obtain ⟨rfl, rfl, rfl⟩ := H
            obtain ⟨HGz13, hgz13⟩ := HI0.out
            have hcz13_0 := cellS59_0 HGz13
            have hcz13_1 := cellS59_1 HGz13
            have hfz13_0 := blk_frozen HGz13 0
            have hfz13_1 := blk_frozen HGz13 1
            clear HGz13 hgz13
            go_enter Try.func31, Try.ntmps31
            go_wp2
            go_ret
            exact ⟨by first | rfl | (simp [errW_none, errW_some] <;> rfl) | (simp [*, errW_none, errW_some] <;> rfl), by repeat (first | (with_reducible first | exact HI0.out | apply IsS59.alloc | apply IsS59.drewN | apply IsS59.drew | apply IsS59.set_0 | apply IsS59.set_1) | exact HI0.out), by repeat (first | (with_reducible first | exact HB.out | apply below_alloc | apply pw_below_drewN | apply below_drew1 | refine below_set ?_ (IsS59.ge HI0.out)) | exact HB.out), by repeat (first | (with_reducible first | exact HK.out | apply KeepBut.set_ | apply keep_drewN | apply keep_drew | apply keep_alloc) | exact HK.out)⟩
          · rw [if_neg c10] at H
            exact absurd H (by simp)
        · rw [if_neg c9] at H
          exact absurd H (by simp)

/-! ### vitrineref20_reader_num: function 30 -/
def vitrineref20_reader_num.f (k : Nat) (s0_0 : ByteArray) (s0_1 : Bool) (a1 : Int) : Option (Int × ByteArray × Bool) := (vitrineref20_reader_text.f s0_0 s0_1 a1).bind fun bt267 => ((vitrineref06_Of.f k bt267.1).bind fun t270 => (some (t270, bt267.2.1, bt267.2.2)))
theorem vitrineref20_reader_num.mono : ∀ a0 a1 a2 k, LeO (vitrineref20_reader_num.f k a0 a1 a2) (vitrineref20_reader_num.f (k + 1) a0 a1 a2) := by
  intro a0 a1 a2 k
  unfold vitrineref20_reader_num.f
  repeat' first
      | (with_reducible exact vitrineref06_Of.mono _ _)
      | (with_reducible exact LeO.refl _)
      | (with_reducible exact LeO.none _)
      | (with_reducible refine LeO.ite ?_ ?_)
      | (with_reducible refine LeO.bind ?_ (fun _ => ?_))
      | exact vitrineref06_Of.mono _ _
      | exact LeO.none _
      | refine LeO.ite ?_ ?_
      | refine LeO.bind ?_ (fun _ => ?_)
set_option maxHeartbeats 40000000 in
set_option maxRecDepth 100000 in
theorem vitrineref20_reader_num.calls (k : Nat) (g : Nat) (s0_0 : ByteArray) (s0_1 : Bool) (a1 : Int) (r1 : Int) (r2 : ByteArray) (r3 : Bool) (w0 w : World) (hI : IsS59 w0 w g s0_0 s0_1) (hB : Below w0.heap.size w0 w) (h : vitrineref20_reader_num.f k s0_0 s0_1 a1 = some (r1, r2, r3)) :
    Calls Try.prog 30 #[.pointer (some ⟨g, 0, none⟩), .int .i64 a1] w fun e w' => e = .returned (.int .i64 r1) ∧ IsS59 w0 w' g r2 r3 ∧ Below w0.heap.size w0 w' ∧ KeepBut w w' g none := by
  have HI0 := Aside0.mk hI
  have HK := Aside0.mk (KeepBut.refl w g none)
  have HL := Aside0.mk hB.size
  clear hI
  have HW0 := Aside0.mk hB.size
  have HB := Aside0.mk hB
  clear hB
  have H : ((vitrineref20_reader_text.f s0_0 s0_1 a1).bind fun bt267 => ((vitrineref06_Of.f k bt267.1).bind fun t270 => (some (t270, bt267.2.1, bt267.2.2)))) = some (r1, r2, r3) := h
  clear h
  replace H := Option.bind_eq_some_iff.mp H
  obtain ⟨⟨t267, t268, t269⟩, A30, H⟩ := H
  replace H : ((vitrineref06_Of.f k t267).bind fun t270 => (some (t270, t268, t269))) = some (r1, r2, r3) := H
  have A3 := Aside0.mk A30
  clear A30
  replace H := Option.bind_eq_some_iff.mp H
  obtain ⟨t270, A40, H⟩ := H
  replace H : (some (t270, t268, t269)) = some (r1, r2, r3) := H
  have A4 := Aside0.mk A40
  clear A40
  simp only [Option.some.injEq, Prod.mk.injEq] at H
  obtain ⟨rfl, rfl, rfl⟩ := H
  go_enter Try.func30, Try.ntmps30
  go_wp2_with (first | ((with_reducible refine gate_callee (f := 31) rfl ?_); refine goesL_ (some 7) rfl rfl Try.func31 (by kernel_rfl) rfl #[.pointer (some ⟨g, 0, none⟩), .int .i64 a1] rfl (by (try simp only [List.map_toArray, List.map_cons, List.map_nil]); first | done | rfl | (simp only [List.length_drop, List.length_take]; rfl) | (simp only [ByteArray.size_extract, Nat.min_self]; done) | (simp only [ByteArray.size_extract, Nat.min_self]; rfl)) ?_; (with_reducible refine (vitrineref20_reader_text.calls g s0_0 s0_1 a1 t267 t268 t269 w0 _ ?side1 ?side2 A3.out).mono ?_); (case side1 => repeat (first | (with_reducible first | exact HI0.out | apply IsS59.alloc | apply IsS59.drewN | apply IsS59.drew | apply IsS59.set_0 | apply IsS59.set_1) | exact HI0.out)); (case side2 => repeat (first | (with_reducible first | exact HB.out | apply below_alloc | apply pw_below_drewN | apply below_drew1 | refine below_set ?_ (IsS59.ge HI0.out)) | exact HB.out)); rintro e w5 ⟨rfl, hi, hb, hk⟩; refine ⟨_, rfl, ?_⟩; have n0_ := Aside0.mk (KeepBut.trans (by repeat (first | (with_reducible first | exact HK.out | apply KeepBut.set_ | apply keep_drewN | apply keep_drew | apply keep_alloc) | exact HK.out)) hk (.inl rfl)); have n1_ := Aside0.mk (hb); have n2_ := Aside0.mk (hi); clear HK; clear HB; clear HI0; have HK := n0_; have HB := n1_; have HI0 := n2_; clear n0_ n1_ n2_; (try clear hb); (try clear hb2); (try clear hk); (try clear hi)) | ((with_reducible refine gate_callee (f := 29) rfl ?_); refine goesL_ (some 8) rfl rfl Try.func29 (by kernel_rfl) rfl #[.string t267] rfl (by (try simp only [List.map_toArray, List.map_cons, List.map_nil]); first | done | rfl | (simp only [List.length_drop, List.length_take]; rfl) | (simp only [ByteArray.size_extract, Nat.min_self]; done) | (simp only [ByteArray.size_extract, Nat.min_self]; rfl)) ?_; (with_reducible refine (vitrineref06_Of.calls k t267 t270 _ A4.out).mono ?_); rintro e w' ⟨rfl, ⟨nd, rfl⟩⟩; refine ⟨_, rfl, ?_⟩))
  go_ret
  exact ⟨by first | rfl | (simp [errW_none, errW_some] <;> rfl) | (simp [*, errW_none, errW_some] <;> rfl), by repeat (first | (with_reducible first | exact HI0.out | apply IsS59.alloc | apply IsS59.drewN | apply IsS59.drew | apply IsS59.set_0 | apply IsS59.set_1) | exact HI0.out), by repeat (first | (with_reducible first | exact HB.out | apply below_alloc | apply pw_below_drewN | apply below_drew1 | refine below_set ?_ (IsS59.ge HI0.out)) | exact HB.out), by repeat (first | (with_reducible first | exact HK.out | apply KeepBut.set_ | apply keep_drewN | apply keep_drew | apply keep_alloc) | exact HK.out)⟩

end Go.Proofs.Ytnimhhhbefpifaa.PL20
