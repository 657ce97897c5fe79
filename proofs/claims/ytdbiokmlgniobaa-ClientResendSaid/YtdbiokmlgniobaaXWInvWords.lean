import Derived.Test.YtdbiokmlgniobaaXWInv
import Derived.Test.YtdbiokmlgniobaaXWFootNe
namespace Go.Proofs.YtdbiokmlgniobaaW.PrintWords
open Go.RowKit
end Go.Proofs.YtdbiokmlgniobaaW.PrintWords
namespace Go.Proofs.YtdbiokmlgniobaaW.PrintLast
section
variable {ops : Array Oper} {a : Act} {o og : Oper} {g : Nat} {t : Tmp} {u : Bool}
end
end Go.Proofs.YtdbiokmlgniobaaW.PrintLast
