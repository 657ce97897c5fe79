/- How the arguments of the laws read as plain values: what holds of each struct's parts. No conditions. -/
import Derived.Test.YtbonmhgihedjpaaXPL15x0
import Derived.Test.YtbonmhgihedjpaaXO
import Derived.Test.YtbonmhgihedjpaaRows
namespace Go.Proofs.Ytbonmhgihedjpaa.PL15
open Go.RowKit Go.Proofs.YtbonmhgihedjpaaW.PrintWords Go.Proofs.YtbonmhgihedjpaaO
set_option linter.unusedVariables false
end Go.Proofs.Ytbonmhgihedjpaa.PL15
