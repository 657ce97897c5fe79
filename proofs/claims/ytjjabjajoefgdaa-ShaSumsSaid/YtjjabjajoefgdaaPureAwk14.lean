/- The chapter's examples of layer 14, by the kernel. No condition. -/
import Derived.Test.YtjjabjajoefgdaaPL14x5
import Derived.Test.YtjjabjajoefgdaaPurePad
namespace Go.Proofs.Ytjjabjajoefgdaa.Pure
open Go.RowKit Go.Proofs.YtjjabjajoefgdaaW.PrintWords Go.Proofs.YtjjabjajoefgdaaW.PrintLast Go.Proofs.YtjjabjajoefgdaaW.PrintMore Go.Proofs.Ytjjabjajoefgdaa.PL14
set_option linter.unusedVariables false
set_option linter.unusedSimpArgs false
theorem awake_ev : Ev (fun k => vitrinelaw14_awake.f k) true := ev_true (fun k => vitrinelaw14_awake.mono k) 100 (by kernel_rfl)

end Go.Proofs.Ytjjabjajoefgdaa.Pure
