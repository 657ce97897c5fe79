import Derived.SizedLaws
import Derived.ChangeSlices
namespace Go.Proofs.YtbpnkgidlmjkkaaW.PrintWords
open Go.ChangeShapes Go.WideShapes
end Go.Proofs.YtbpnkgidlmjkkaaW.PrintWords
