/- ClientBusy, plain: a client does one operation at a time. Conditions: whole numbers of 64 bits, strings and lists as long as the model allows. -/
import Derived.Test.YtdbiokmlgniobaaYPL22x2
import Derived.Test.YtdbiokmlgniobaaYO
import Derived.Test.YtdbiokmlgniobaaRows
import Derived.Test.YtdbiokmlgniobaaYPL22x11
import Derived.Test.YtdbiokmlgniobaaYPL22x13
import Derived.Test.YtdbiokmlgniobaaYWMore
import Derived.Laws.Strings
namespace Go.Proofs.Ytdbiokmlgniobaa.PL22
open Go.RowKit Go.Proofs.YtdbiokmlgniobaaW.PrintWords Go.Proofs.YtdbiokmlgniobaaO
set_option linter.unusedVariables false
def okS23 (y_ : S23) : Prop := (fun x_ : Int => (Lit.int .i64 x_).wf = true) y_.f0 ∧ (fun x_ : Int => (Lit.int .i64 x_).wf = true) y_.f1
theorem opn23 : Opn Try.prog 23 k23 okS23 := opn_mk rfl (fun (z_ : (Int) × (Int)) => (⟨z_.1, z_.2⟩ : S23)) (fun _ => rfl) (opn_struct Try.underlying23 (by kernel_rfl) (opnFs_cons rfl (by kernel_rfl) (opn_int Try.underlying3) rfl (opnFs_one rfl (by kernel_rfl) (opn_int Try.underlying3)))) (fun _ h_ => h_)
def okS26 (y_ : S26) : Prop := (fun x_ : Int => (Lit.int .i64 x_).wf = true) y_.f0 ∧ (fun x_ : Int => (Lit.int .i64 x_).wf = true) y_.f1 ∧ (fun x_ : Int => (Lit.int .i64 x_).wf = true) y_.f2 ∧ (fun x_ : Int => (Lit.int .i64 x_).wf = true) y_.f3 ∧ (fun s_ : ByteArray => s_.size ≤ 140737488351232) y_.f4 ∧ okS23 y_.f5 ∧ (fun s_ : ByteArray => s_.size ≤ 140737488351232) y_.f6 ∧ (fun xs_ : List ByteArray => xs_.length ≤ maxLen ∧ xs_.length * 16 ≤ 140737488351232 ∧ ∀ y_ ∈ xs_, (fun s_ : ByteArray => s_.size ≤ 140737488351232) y_) y_.f7
theorem opn26 : Opn Try.prog 26 k26 okS26 := opn_mk rfl (fun (z_ : (Int) × (Int) × (Int) × (Int) × (ByteArray) × (S23) × (ByteArray) × (List ByteArray)) => (⟨z_.1, z_.2.1, z_.2.2.1, z_.2.2.2.1, z_.2.2.2.2.1, z_.2.2.2.2.2.1, z_.2.2.2.2.2.2.1, z_.2.2.2.2.2.2.2⟩ : S26)) (fun _ => rfl) (opn_struct Try.underlying26 (by kernel_rfl) (opnFs_cons rfl (by kernel_rfl) (opn_int Try.underlying3) rfl (opnFs_cons rfl (by kernel_rfl) (opn_int Try.underlying3) rfl (opnFs_cons rfl (by kernel_rfl) (opn_int Try.underlying3) rfl (opnFs_cons rfl (by kernel_rfl) (opn_int Try.underlying3) rfl (opnFs_cons rfl (by kernel_rfl) (opn_string Try.underlying9) rfl (opnFs_cons rfl (by kernel_rfl) opn23 rfl (opnFs_cons rfl (by kernel_rfl) (opn_string Try.underlying9) rfl (opnFs_one rfl (by kernel_rfl) (opn_slice Try.underlying24 (by kernel_rfl) (by kernel_rfl) (opn_string Try.underlying9))))))))))) (fun _ h_ => h_)
end Go.Proofs.Ytdbiokmlgniobaa.PL22

namespace Go.Proofs.Ytdbiokmlgniobaa.Pure
open Go.RowKit Go.Proofs.YtdbiokmlgniobaaW.PrintWords Go.Proofs.YtdbiokmlgniobaaW.PrintLast Go.Proofs.YtdbiokmlgniobaaW.PrintMore Go.Proofs.Ytdbiokmlgniobaa.PL22
set_option linter.unusedVariables false
set_option linter.unusedSimpArgs false
theorem w64 {x : Int} (h1 : -9223372036854775808 ≤ x) (h2 : x ≤ 9223372036854775807) : wrap64 x = x := by
  unfold wrap64
  omega
theorem ev_true {g : Nat → Option Bool} (hm : ∀ k, LeO (g k) (g (k + 1))) (k : Nat) (h : g k = some true) : Ev g true := Ev.of hm h
theorem wfew_loop (l : List ByteArray) (hl : l.length ≤ 20) (a0 a1 a2 a3 : Int) (a4 : ByteArray) (a5 a6 : Int) (a7 : ByteArray) : ∀ d i : Nat, i + d = l.length → ∃ b, Ev (fun k => vitrinelaw22_few.l0 k (i : Int) a0 a1 a2 a3 a4 a5 a6 a7 l) b ∧ (b = true → ∀ j, i ≤ j → j < l.length → (rdOf ByteArray.empty l (j : Int)).size ≤ 5000) := by
  intro d
  induction d with
  | zero =>
    intro i hi
    refine ⟨true, ?_, fun _ j h1 h2 => by omega⟩
    refine Ev.step (f := fun _ => some true) (fun k => ?_) (Ev.now _)
    simp only [vitrinelaw22_few.l0]
    rw [if_neg (by omega)]
  | succ d ih =>
    intro i hi
    have hw : wrap64 ((i : Int) + 1) = ((i + 1 : Nat) : Int) := by rw [w64 (by omega) (by omega)]; omega
    by_cases hb : ((rdOf ByteArray.empty l (i : Int)).size : Int) > 5000
    · refine ⟨false, ?_, fun h => by cases h⟩
      refine Ev.step (f := fun _ => some false) (fun k => ?_) (Ev.now _)
      simp only [vitrinelaw22_few.l0]
      rw [if_pos (by omega), if_pos (by omega), if_pos hb]
    · obtain ⟨b, h1, h2⟩ := ih (i + 1) (by omega)
      refine ⟨b, ?_, fun h j hj1 hj2 => ?_⟩
      · refine Ev.step (fun k => ?_) h1
        simp only [vitrinelaw22_few.l0]
        rw [if_pos (by omega), if_pos (by omega), if_neg hb, hw]
      · by_cases hji : j = i
        · subst hji; omega
        · exact h2 h j (by omega) hj2
def fewP (a4 a7 : ByteArray) (l : List ByteArray) : Prop := l.length ≤ 20 ∧ a4.size ≤ 1000 ∧ a7.size ≤ 5000 ∧ ∀ j, j < l.length → (rdOf ByteArray.empty l (j : Int)).size ≤ 5000
theorem wfew_ev (a0 a1 a2 a3 : Int) (a4 : ByteArray) (a5 a6 : Int) (a7 : ByteArray) (l : List ByteArray) : ∃ b, Ev (fun k => vitrinelaw22_few.f k a0 a1 a2 a3 a4 a5 a6 a7 l) b ∧ (b = true → fewP a4 a7 l) := by
  have jt : Ev (fun k => vitrinelaw22_few.j0 k true a0 a1 a2 a3 a4 a5 a6 a7 l) false := by
    refine Ev.step (f := fun _ => some false) (fun k => ?_) (Ev.now _)
    simp only [vitrinelaw22_few.j0, if_true]
  by_cases c1 : (l.length : Int) > 20
  · exact ⟨false, Ev.congr (fun k => by unfold vitrinelaw22_few.f; rw [if_pos c1]) jt, fun h => by cases h⟩
  · by_cases c2 : (a4.size : Int) > 1000
    · exact ⟨false, Ev.congr (fun k => by unfold vitrinelaw22_few.f; rw [if_neg c1, if_pos c2]) jt, fun h => by cases h⟩
    · by_cases c3 : (a7.size : Int) > 5000
      · exact ⟨false, Ev.congr (fun k => by unfold vitrinelaw22_few.f; rw [if_neg c1, if_neg c2, decide_eq_true c3]) jt, fun h => by cases h⟩
      · obtain ⟨b, h1, h2⟩ := wfew_loop l (by omega) a0 a1 a2 a3 a4 a5 a6 a7 l.length 0 (by omega)
        refine ⟨b, ?_, fun h => ⟨by omega, by omega, by omega, fun j hj => h2 h j (by omega) hj⟩⟩
        refine Ev.congr (f := fun k => vitrinelaw22_few.j0 k false a0 a1 a2 a3 a4 a5 a6 a7 l) (fun k => by unfold vitrinelaw22_few.f; rw [if_neg c1, if_neg c2, decide_eq_false c3]) ?_
        refine Ev.step (fun k => ?_) h1
        simp only [vitrinelaw22_few.j0]
        rw [if_neg (by decide)]
        rfl
theorem same_bus : Ev (fun k => vitrinelaw22_same.f k busL busL) true := ev_true (fun k => vitrinelaw22_same.mono _ _ k) 60 (by kernel_rfl)
theorem ClientBusy : ∀ (a0_0 : Int) (a0_1 : Int) (a0_2 : Int) (a0_3 : Int) (a0_4 : ByteArray) (a0_5 : Int) (a0_6 : Int) (a0_7 : ByteArray) (l0_8 : List ByteArray), ((Lit.int .i64 a0_0).wf = true) → ((Lit.int .i64 a0_1).wf = true) → ((Lit.int .i64 a0_2).wf = true) → ((Lit.int .i64 a0_3).wf = true) → (a0_4.size ≤ 140737488351232) → ((Lit.int .i64 a0_5).wf = true) → ((Lit.int .i64 a0_6).wf = true) → (a0_7.size ≤ 140737488351232) → (l0_8.length ≤ maxLen ∧ l0_8.length * 16 ≤ 140737488351232 ∧ ∀ y_ ∈ l0_8, (fun s_ : ByteArray => s_.size ≤ 140737488351232) y_) → ∃ k, vitrinelaw22_ClientBusy.f k a0_0 a0_1 a0_2 a0_3 a0_4 a0_5 a0_6 a0_7 l0_8 = some true := by
  intro a0 a1 a2 a3 a4 a5 a6 a7 l _ _ _ _ _ _ _ _ _
  refine Ev.rounds ?_
  obtain ⟨b, hb, _⟩ := wfew_ev a0 a1 a2 a3 a4 a5 a6 a7 l
  refine Ev.bind hb ?_
  cases b
  · exact Ev.now _
  · exact Ev.bind same_bus (Ev.now _)

end Go.Proofs.Ytdbiokmlgniobaa.Pure
