/- How the arguments of the laws read as plain values: what holds of each struct's parts. No conditions. -/
import Derived.Test.YtfgbfbhllbejpaaPL07x0
import Derived.Test.YtfgbfbhllbejpaaO
import Derived.Test.YtfgbfbhllbejpaaRows
namespace Go.Proofs.Ytfgbfbhllbejpaa.PL07
open Go.RowKit Go.Proofs.YtfgbfbhllbejpaaW.PrintWords Go.Proofs.YtfgbfbhllbejpaaO
set_option linter.unusedVariables false
def okS35 (y_ : S35) : Prop := (fun s_ : ByteArray => s_.size ≤ 140737488351232) y_.f0 ∧ (fun s_ : ByteArray => s_.size ≤ 140737488351232) y_.f1
theorem opn35 : Opn Try.prog 35 k35 okS35 := opn_mk rfl (fun (z_ : (ByteArray) × (ByteArray)) => (⟨z_.1, z_.2⟩ : S35)) (fun _ => rfl) (opn_struct Try.underlying35 (by kernel_rfl) (opnFs_cons rfl (by kernel_rfl) (opn_string Try.underlying9) rfl (opnFs_one rfl (by kernel_rfl) (opn_string Try.underlying9)))) (fun _ h_ => h_)
end Go.Proofs.Ytfgbfbhllbejpaa.PL07
