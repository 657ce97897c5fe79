/- How the arguments of the laws read as plain values: what holds of each struct's parts. No conditions. -/
import Derived.Test.YtnimhhhbefpifaaZPL20x0
import Derived.Test.YtnimhhhbefpifaaZO
import Derived.Test.YtnimhhhbefpifaaRows
namespace Go.Proofs.Ytnimhhhbefpifaa.PL20
open Go.RowKit Go.Proofs.YtnimhhhbefpifaaW.PrintWords Go.Proofs.YtnimhhhbefpifaaO
set_option linter.unusedVariables false
end Go.Proofs.Ytnimhhhbefpifaa.PL20
