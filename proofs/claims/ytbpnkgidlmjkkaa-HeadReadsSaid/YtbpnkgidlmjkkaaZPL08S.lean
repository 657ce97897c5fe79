/- How the arguments of the laws read as plain values: what holds of each struct's parts. No conditions. -/
import Derived.Test.YtbpnkgidlmjkkaaZPL08x0
import Derived.Test.YtbpnkgidlmjkkaaZO
import Derived.Test.YtbpnkgidlmjkkaaRows
namespace Go.Proofs.Ytbpnkgidlmjkkaa.PL08
open Go.RowKit Go.Proofs.YtbpnkgidlmjkkaaW.PrintWords Go.Proofs.YtbpnkgidlmjkkaaO
set_option linter.unusedVariables false
def okS30 (y_ : S30) : Prop := (fun s_ : ByteArray => s_.size ≤ 140737488351232) y_.f0 ∧ (fun s_ : ByteArray => s_.size ≤ 140737488351232) y_.f1
theorem opn30 : Opn Try.prog 30 k30 okS30 := opn_mk rfl (fun (z_ : (ByteArray) × (ByteArray)) => (⟨z_.1, z_.2⟩ : S30)) (fun _ => rfl) (opn_struct Try.underlying30 (by kernel_rfl) (opnFs_cons rfl (by kernel_rfl) (opn_string Try.underlying9) rfl (opnFs_one rfl (by kernel_rfl) (opn_string Try.underlying9)))) (fun _ h_ => h_)
end Go.Proofs.Ytbpnkgidlmjkkaa.PL08
