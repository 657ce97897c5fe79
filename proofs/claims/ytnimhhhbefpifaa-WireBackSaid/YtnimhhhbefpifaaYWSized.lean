import Derived.SizedLaws
import Derived.ChangeSlices
namespace Go.Proofs.YtnimhhhbefpifaaW.PrintWords
open Go.ChangeShapes Go.WideShapes
end Go.Proofs.YtnimhhhbefpifaaW.PrintWords
