/- How many bands a height has. -/
import Derived.Test.YtnimhhhbefpifaaPureRg0
import Derived.Test.YtnimhhhbefpifaaPureNum4
namespace Go.Proofs.Ytnimhhhbefpifaa.Pure
open Go.RowKit Go.Proofs.YtnimhhhbefpifaaW.PrintWords Go.Proofs.YtnimhhhbefpifaaW.PrintLast Go.Proofs.YtnimhhhbefpifaaW.PrintMore
set_option linter.unusedVariables false
set_option linter.unusedSimpArgs false
def mb (h : Nat) : Nat := (h + 7) / 8
theorem mb_le {h : Nat} (h4 : h ≤ 1024) : mb h ≤ 8796093022208 := by unfold mb; omega

end Go.Proofs.Ytnimhhhbefpifaa.Pure
