import Derived.SizedLaws
import Derived.ChangeSlices
namespace Go.Proofs.YtbonmhgihedjpaaW.PrintWords
open Go.ChangeShapes Go.WideShapes
end Go.Proofs.YtbonmhgihedjpaaW.PrintWords
