import Derived.Test.YtnimhhhbefpifaaYWInv
import Derived.Test.YtnimhhhbefpifaaYWFootNe
namespace Go.Proofs.YtnimhhhbefpifaaW.PrintWords
open Go.RowKit
end Go.Proofs.YtnimhhhbefpifaaW.PrintWords
namespace Go.Proofs.YtnimhhhbefpifaaW.PrintLast
section
variable {ops : Array Oper} {a : Act} {o og : Oper} {g : Nat} {t : Tmp} {u : Bool}
end
end Go.Proofs.YtnimhhhbefpifaaW.PrintLast
