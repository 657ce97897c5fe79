/- BandsNames, plain: which texts may be names is the document's answer. No condition. -/
import Derived.Test.YtbonmhgihedjpaaPL15x16
import Derived.Test.YtbonmhgihedjpaaPL15x18
import Derived.Test.YtbonmhgihedjpaaPL15x19
import Derived.Test.YtbonmhgihedjpaaPureB15
import Derived.Test.YtbonmhgihedjpaaPureNam15
namespace Go.Proofs.Ytbonmhgihedjpaa.Pure
open Go.RowKit Go.Proofs.YtbonmhgihedjpaaW.PrintWords Go.Proofs.YtbonmhgihedjpaaW.PrintLast Go.Proofs.YtbonmhgihedjpaaW.PrintMore Go.Proofs.Ytbonmhgihedjpaa.PL15
set_option linter.unusedVariables false
set_option linter.unusedSimpArgs false
theorem BandsNames : ∀ (a0 : ByteArray), (a0.size ≤ 140737488351232) → ∃ k, vitrinelaw15_BandsNames.f k a0 = some true := by
  intro s hs
  refine Ev.rounds ?_
  refine Ev.bind (f := fun k t299 => ((vitrineref15_Name.f k s).bind fun t300 => (if t299 = t300 then ((vitrinelaw15_awake.f k).bind fun t301 => (some t301)) else (some false)))) (Name_ev s (by omega)) ?_
  refine Ev.bind (f := fun k t300 => (if namV s = t300 then ((vitrinelaw15_awake.f k).bind fun t301 => (some t301)) else (some false))) (rName_ev s (by omega)) ?_
  exact Ev.congr (fun k => by rw [if_pos rfl]) (ev_id awake15)

end Go.Proofs.Ytbonmhgihedjpaa.Pure
