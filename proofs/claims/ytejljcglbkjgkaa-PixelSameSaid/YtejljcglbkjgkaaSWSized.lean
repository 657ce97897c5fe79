import Derived.SizedLaws
import Derived.ChangeSlices
namespace Go.Proofs.YtejljcglbkjgkaaW.PrintWords
open Go.ChangeShapes Go.WideShapes
end Go.Proofs.YtejljcglbkjgkaaW.PrintWords
