/- ClientNil, plain: a nil client does nothing. No conditions. -/
import Derived.Test.YtdbiokmlgniobaaZPL22x2
import Derived.Test.YtdbiokmlgniobaaZO
import Derived.Test.YtdbiokmlgniobaaRows
import Derived.Test.YtdbiokmlgniobaaZPL22x14
namespace Go.Proofs.Ytdbiokmlgniobaa.PL22
open Go.RowKit Go.Proofs.YtdbiokmlgniobaaW.PrintWords Go.Proofs.YtdbiokmlgniobaaO
set_option linter.unusedVariables false
def okS23 (y_ : S23) : Prop := (fun x_ : Int => (Lit.int .i64 x_).wf = true) y_.f0 ∧ (fun x_ : Int => (Lit.int .i64 x_).wf = true) y_.f1
theorem opn23 : Opn Try.prog 23 k23 okS23 := opn_mk rfl (fun (z_ : (Int) × (Int)) => (⟨z_.1, z_.2⟩ : S23)) (fun _ => rfl) (opn_struct Try.underlying23 (by kernel_rfl) (opnFs_cons rfl (by kernel_rfl) (opn_int Try.underlying3) rfl (opnFs_one rfl (by kernel_rfl) (opn_int Try.underlying3)))) (fun _ h_ => h_)
def okS26 (y_ : S26) : Prop := (fun x_ : Int => (Lit.int .i64 x_).wf = true) y_.f0 ∧ (fun x_ : Int => (Lit.int .i64 x_).wf = true) y_.f1 ∧ (fun x_ : Int => (Lit.int .i64 x_).wf = true) y_.f2 ∧ (fun x_ : Int => (Lit.int .i64 x_).wf = true) y_.f3 ∧ (fun s_ : ByteArray => s_.size ≤ 140737488351232) y_.f4 ∧ okS23 y_.f5 ∧ (fun s_ : ByteArray => s_.size ≤ 140737488351232) y_.f6 ∧ (fun xs_ : List ByteArray => xs_.length ≤ maxLen ∧ xs_.length * 16 ≤ 140737488351232 ∧ ∀ y_ ∈ xs_, (fun s_ : ByteArray => s_.size ≤ 140737488351232) y_) y_.f7
theorem opn26 : Opn Try.prog 26 k26 okS26 := opn_mk rfl (fun (z_ : (Int) × (Int) × (Int) × (Int) × (ByteArray) × (S23) × (ByteArray) × (List ByteArray)) => (⟨z_.1, z_.2.1, z_.2.2.1, z_.2.2.2.1, z_.2.2.2.2.1, z_.2.2.2.2.2.1, z_.2.2.2.2.2.2.1, z_.2.2.2.2.2.2.2⟩ : S26)) (fun _ => rfl) (opn_struct Try.underlying26 (by kernel_rfl) (opnFs_cons rfl (by kernel_rfl) (opn_int Try.underlying3) rfl (opnFs_cons rfl (by kernel_rfl) (opn_int Try.underlying3) rfl (opnFs_cons rfl (by kernel_rfl) (opn_int Try.underlying3) rfl (opnFs_cons rfl (by kernel_rfl) (opn_int Try.underlying3) rfl (opnFs_cons rfl (by kernel_rfl) (opn_string Try.underlying9) rfl (opnFs_cons rfl (by kernel_rfl) opn23 rfl (opnFs_cons rfl (by kernel_rfl) (opn_string Try.underlying9) rfl (opnFs_one rfl (by kernel_rfl) (opn_slice Try.underlying24 (by kernel_rfl) (by kernel_rfl) (opn_string Try.underlying9))))))))))) (fun _ h_ => h_)
end Go.Proofs.Ytdbiokmlgniobaa.PL22

namespace Go.Proofs.Ytdbiokmlgniobaa.Pure
open Go.RowKit Go.Proofs.YtdbiokmlgniobaaW.PrintWords Go.Proofs.YtdbiokmlgniobaaW.PrintLast Go.Proofs.YtdbiokmlgniobaaW.PrintMore Go.Proofs.Ytdbiokmlgniobaa.PL22
set_option linter.unusedVariables false
set_option linter.unusedSimpArgs false
theorem ClientNil : ∀ (a0_0 : Int) (a0_1 : Int) (a0_2 : Int) (a0_3 : Int) (a0_4 : ByteArray) (a0_5 : Int) (a0_6 : Int) (a0_7 : ByteArray) (l0_8 : List ByteArray), ((Lit.int .i64 a0_0).wf = true) → ((Lit.int .i64 a0_1).wf = true) → ((Lit.int .i64 a0_2).wf = true) → ((Lit.int .i64 a0_3).wf = true) → (a0_4.size ≤ 140737488351232) → ((Lit.int .i64 a0_5).wf = true) → ((Lit.int .i64 a0_6).wf = true) → (a0_7.size ≤ 140737488351232) → (l0_8.length ≤ maxLen ∧ l0_8.length * 16 ≤ 140737488351232 ∧ ∀ y_ ∈ l0_8, (fun s_ : ByteArray => s_.size ≤ 140737488351232) y_) → ∃ k, vitrinelaw22_ClientNil.f k a0_0 a0_1 a0_2 a0_3 a0_4 a0_5 a0_6 a0_7 l0_8 = some true :=
  fun _ _ _ _ _ _ _ _ _ _ _ _ _ _ _ _ _ _ => ⟨0, rfl⟩

end Go.Proofs.Ytdbiokmlgniobaa.Pure
