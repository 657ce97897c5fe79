/- How the arguments of the laws read as plain values: what holds of each struct's parts. No conditions. -/
import Derived.Test.YtbpnkgidlmjkkaaYPL08x0
import Derived.Test.YtbpnkgidlmjkkaaYO
import Derived.Test.YtbpnkgidlmjkkaaRows
namespace Go.Proofs.Ytbpnkgidlmjkkaa.PL08
open Go.RowKit Go.Proofs.YtbpnkgidlmjkkaaW.PrintWords Go.Proofs.YtbpnkgidlmjkkaaO
set_option linter.unusedVariables false
def okS23 (y_ : S23) : Prop := (fun x_ : Int => (Lit.int .i64 x_).wf = true) y_.f0 ∧ (fun x_ : Int => (Lit.int .i64 x_).wf = true) y_.f1 ∧ (fun x_ : Int => (Lit.int .i64 x_).wf = true) y_.f2 ∧ (fun x_ : Int => (Lit.int .i64 x_).wf = true) y_.f3 ∧ (fun x_ : Int => (Lit.int .i64 x_).wf = true) y_.f4
theorem opn23 : Opn Try.prog 23 k23 okS23 := opn_mk rfl (fun (z_ : (Int) × (Int) × (Int) × (Int) × (Int)) => (⟨z_.1, z_.2.1, z_.2.2.1, z_.2.2.2.1, z_.2.2.2.2⟩ : S23)) (fun _ => rfl) (opn_struct Try.underlying23 (by kernel_rfl) (opnFs_cons rfl (by kernel_rfl) (opn_int Try.underlying3) rfl (opnFs_cons rfl (by kernel_rfl) (opn_int Try.underlying3) rfl (opnFs_cons rfl (by kernel_rfl) (opn_int Try.underlying3) rfl (opnFs_cons rfl (by kernel_rfl) (opn_int Try.underlying3) rfl (opnFs_one rfl (by kernel_rfl) (opn_int Try.underlying3))))))) (fun _ h_ => h_)
end Go.Proofs.Ytbpnkgidlmjkkaa.PL08
