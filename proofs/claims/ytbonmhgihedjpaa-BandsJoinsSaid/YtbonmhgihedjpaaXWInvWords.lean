import Derived.Test.YtbonmhgihedjpaaXWInv
import Derived.Test.YtbonmhgihedjpaaXWFootNe
namespace Go.Proofs.YtbonmhgihedjpaaW.PrintWords
open Go.RowKit
end Go.Proofs.YtbonmhgihedjpaaW.PrintWords
namespace Go.Proofs.YtbonmhgihedjpaaW.PrintLast
section
variable {ops : Array Oper} {a : Act} {o og : Oper} {g : Nat} {t : Tmp} {u : Bool}
end
end Go.Proofs.YtbonmhgihedjpaaW.PrintLast
