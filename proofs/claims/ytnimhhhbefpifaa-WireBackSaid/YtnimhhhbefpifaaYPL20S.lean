/- How the arguments of the laws read as plain values: what holds of each struct's parts. No conditions. -/
import Derived.Test.YtnimhhhbefpifaaYPL20x0
import Derived.Test.YtnimhhhbefpifaaYO
import Derived.Test.YtnimhhhbefpifaaRows
namespace Go.Proofs.Ytnimhhhbefpifaa.PL20
open Go.RowKit Go.Proofs.YtnimhhhbefpifaaW.PrintWords Go.Proofs.YtnimhhhbefpifaaO
set_option linter.unusedVariables false
def okS23 (y_ : S23) : Prop := (fun x_ : Int => (Lit.int .i64 x_).wf = true) y_.f0 ∧ (fun x_ : Int => (Lit.int .i64 x_).wf = true) y_.f1
theorem opn23 : Opn Try.prog 23 k23 okS23 := opn_mk rfl (fun (z_ : (Int) × (Int)) => (⟨z_.1, z_.2⟩ : S23)) (fun _ => rfl) (opn_struct Try.underlying23 (by kernel_rfl) (opnFs_cons rfl (by kernel_rfl) (opn_int Try.underlying3) rfl (opnFs_one rfl (by kernel_rfl) (opn_int Try.underlying3)))) (fun _ h_ => h_)
def okS26 (y_ : S26) : Prop := (fun x_ : Int => (Lit.int .i64 x_).wf = true) y_.f0 ∧ (fun x_ : Int => (Lit.int .i64 x_).wf = true) y_.f1 ∧ (fun x_ : Int => (Lit.int .i64 x_).wf = true) y_.f2 ∧ (fun x_ : Int => (Lit.int .i64 x_).wf = true) y_.f3 ∧ (fun s_ : ByteArray => s_.size ≤ 140737488351232) y_.f4 ∧ okS23 y_.f5 ∧ (fun s_ : ByteArray => s_.size ≤ 140737488351232) y_.f6 ∧ (fun xs_ : List ByteArray => xs_.length ≤ maxLen ∧ xs_.length * 16 ≤ 140737488351232 ∧ ∀ y_ ∈ xs_, (fun s_ : ByteArray => s_.size ≤ 140737488351232) y_) y_.f7
theorem opn26 : Opn Try.prog 26 k26 okS26 := opn_mk rfl (fun (z_ : (Int) × (Int) × (Int) × (Int) × (ByteArray) × (S23) × (ByteArray) × (List ByteArray)) => (⟨z_.1, z_.2.1, z_.2.2.1, z_.2.2.2.1, z_.2.2.2.2.1, z_.2.2.2.2.2.1, z_.2.2.2.2.2.2.1, z_.2.2.2.2.2.2.2⟩ : S26)) (fun _ => rfl) (opn_struct Try.underlying26 (by kernel_rfl) (opnFs_cons rfl (by kernel_rfl) (opn_int Try.underlying3) rfl (opnFs_cons rfl (by kernel_rfl) (opn_int Try.underlying3) rfl (opnFs_cons rfl (by kernel_rfl) (opn_int Try.underlying3) rfl (opnFs_cons rfl (by kernel_rfl) (opn_int Try.underlying3) rfl (opnFs_cons rfl (by kernel_rfl) (opn_string Try.underlying9) rfl (opnFs_cons rfl (by kernel_rfl) opn23 rfl (opnFs_cons rfl (by kernel_rfl) (opn_string Try.underlying9) rfl (opnFs_one rfl (by kernel_rfl) (opn_slice Try.underlying24 (by kernel_rfl) (by kernel_rfl) (opn_string Try.underlying9))))))))))) (fun _ h_ => h_)
end Go.Proofs.Ytnimhhhbefpifaa.PL20
