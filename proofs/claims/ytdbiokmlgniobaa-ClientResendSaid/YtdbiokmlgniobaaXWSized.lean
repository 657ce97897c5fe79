import Derived.SizedLaws
import Derived.ChangeSlices
namespace Go.Proofs.YtdbiokmlgniobaaW.PrintWords
open Go.ChangeShapes Go.WideShapes
end Go.Proofs.YtdbiokmlgniobaaW.PrintWords
