import Derived.Test.YtbpnkgidlmjkkaaZWInv
import Derived.Test.YtbpnkgidlmjkkaaZWFootNe
namespace Go.Proofs.YtbpnkgidlmjkkaaW.PrintWords
open Go.RowKit
end Go.Proofs.YtbpnkgidlmjkkaaW.PrintWords
namespace Go.Proofs.YtbpnkgidlmjkkaaW.PrintLast
section
variable {ops : Array Oper} {a : Act} {o og : Oper} {g : Nat} {t : Tmp} {u : Bool}
end
end Go.Proofs.YtbpnkgidlmjkkaaW.PrintLast
