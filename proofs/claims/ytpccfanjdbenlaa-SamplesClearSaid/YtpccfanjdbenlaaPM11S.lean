/- How the arguments of the laws read as plain values: what holds of each struct's parts. No conditions. -/
import Derived.Test.YtpccfanjdbenlaaPM11x0
import Derived.Test.YtpccfanjdbenlaaO
import Derived.Test.YtpccfanjdbenlaaRows
namespace Go.Proofs.Ytpccfanjdbenlaa.PM11
open Go.RowKit Go.Proofs.YtpccfanjdbenlaaW.PrintWords Go.Proofs.YtpccfanjdbenlaaO
set_option linter.unusedVariables false
def okS36 (y_ : S36) : Prop := (fun x_ : Int => (Lit.int .i64 x_).wf = true) y_.f0 ∧ (fun x_ : Int => (Lit.int .i64 x_).wf = true) y_.f1 ∧ (fun x_ : Int => (Lit.int .i64 x_).wf = true) y_.f2 ∧ (fun x_ : Int => (Lit.int .i64 x_).wf = true) y_.f3 ∧ (fun x_ : Int => (Lit.int .i64 x_).wf = true) y_.f4
theorem opn36 : Opn Try.prog 36 k36 okS36 := opn_mk rfl (fun (z_ : (Int) × (Int) × (Int) × (Int) × (Int)) => (⟨z_.1, z_.2.1, z_.2.2.1, z_.2.2.2.1, z_.2.2.2.2⟩ : S36)) (fun _ => rfl) (opn_struct Try.underlying36 (by kernel_rfl) (opnFs_cons rfl (by kernel_rfl) (opn_int Try.underlying3) rfl (opnFs_cons rfl (by kernel_rfl) (opn_int Try.underlying3) rfl (opnFs_cons rfl (by kernel_rfl) (opn_int Try.underlying3) rfl (opnFs_cons rfl (by kernel_rfl) (opn_int Try.underlying3) rfl (opnFs_one rfl (by kernel_rfl) (opn_int Try.underlying3))))))) (fun _ h_ => h_)
def okS38 (y_ : S38) : Prop := okS36 y_.f0 ∧ (fun s_ : ByteArray => s_.size ≤ 140737488351232) y_.f1 ∧ (fun s_ : ByteArray => s_.size ≤ 140737488351232) y_.f2 ∧ (fun _ : Bool => True) y_.f3
theorem opn38 : Opn Try.prog 38 k38 okS38 := opn_mk rfl (fun (z_ : (S36) × (ByteArray) × (ByteArray) × (Bool)) => (⟨z_.1, z_.2.1, z_.2.2.1, z_.2.2.2⟩ : S38)) (fun _ => rfl) (opn_struct Try.underlying38 (by kernel_rfl) (opnFs_cons rfl (by kernel_rfl) opn36 rfl (opnFs_cons rfl (by kernel_rfl) (opn_string Try.underlying9) rfl (opnFs_cons rfl (by kernel_rfl) (opn_string Try.underlying9) rfl (opnFs_one rfl (by kernel_rfl) (opn_bool Try.underlying4)))))) (fun _ h_ => h_)
def okS42 (y_ : S42) : Prop := (fun x_ : Int => (Lit.int .i64 x_).wf = true) y_.f0 ∧ (fun x_ : Int => (Lit.int .i64 x_).wf = true) y_.f1
theorem opn42 : Opn Try.prog 42 k42 okS42 := opn_mk rfl (fun (z_ : (Int) × (Int)) => (⟨z_.1, z_.2⟩ : S42)) (fun _ => rfl) (opn_array Try.underlying42 (by kernel_rfl) (opnAr_cons (by kernel_rfl) (opn_int Try.underlying3) (opnAr_one (by kernel_rfl) (opn_int Try.underlying3)))) (fun _ h_ => h_)
end Go.Proofs.Ytpccfanjdbenlaa.PM11
