/- BandsReads, plain: what a manifest says is the document's answer. No condition. -/
import Derived.Test.YtbonmhgihedjpaaPL15x15
import Derived.Test.YtbonmhgihedjpaaPL15x16
import Derived.Test.YtbonmhgihedjpaaPL15x25
import Derived.Test.YtbonmhgihedjpaaPL15x26
import Derived.Test.YtbonmhgihedjpaaPureB15
import Derived.Test.YtbonmhgihedjpaaPureRed15
namespace Go.Proofs.Ytbonmhgihedjpaa.Pure
open Go.RowKit Go.Proofs.YtbonmhgihedjpaaW.PrintWords Go.Proofs.YtbonmhgihedjpaaW.PrintLast Go.Proofs.YtbonmhgihedjpaaW.PrintMore Go.Proofs.Ytbonmhgihedjpaa.PL15
set_option linter.unusedVariables false
set_option linter.unusedSimpArgs false
theorem BandsReads : ∀ (a0 : ByteArray), (a0.size ≤ 140737488351232) → ∃ k, vitrinelaw15_BandsReads.f k a0 = some true := by
  intro m hm
  refine Ev.rounds ?_
  refine Ev.bind (f := fun k bt344 => ((vitrineref15_Read.f k m).bind fun bt350 => (if bt344.2.2.2 = bt350.2.2.2 then (if bt344.1 = bt350.1 then (if bt344.2.1 = bt350.2.1 then ((vitrinelaw15_texts.f k bt344.2.2.1 bt350.2.2.1).bind fun t356 => (if t356 = true then ((vitrinelaw15_awake.f k).bind fun t357 => (some t357)) else (some false))) else (some false)) else (some false)) else (some false)))) (Read_ev m (by omega)) ?_
  refine Ev.bind (f := fun k bt350 => (if (redV m).2.2.2 = bt350.2.2.2 then (if (redV m).1 = bt350.1 then (if (redV m).2.1 = bt350.2.1 then ((vitrinelaw15_texts.f k (redV m).2.2.1 bt350.2.2.1).bind fun t356 => (if t356 = true then ((vitrinelaw15_awake.f k).bind fun t357 => (some t357)) else (some false))) else (some false)) else (some false)) else (some false))) (rRead_ev m (by omega)) ?_
  refine Ev.congr (f := fun k => (vitrinelaw15_texts.f k (redV m).2.2.1 (redV m).2.2.1).bind fun t356 => (if t356 = true then ((vitrinelaw15_awake.f k).bind fun t357 => (some t357)) else (some false))) (fun k => by rw [if_pos rfl, if_pos rfl, if_pos rfl]) ?_
  refine Ev.bind (f := fun k t356 => (if t356 = true then ((vitrinelaw15_awake.f k).bind fun t357 => (some t357)) else (some false))) (texts_ev _ (redV_len m (by omega))) ?_
  exact Ev.congr (fun k => by rw [if_pos rfl]) (ev_id awake15)

end Go.Proofs.Ytbonmhgihedjpaa.Pure
