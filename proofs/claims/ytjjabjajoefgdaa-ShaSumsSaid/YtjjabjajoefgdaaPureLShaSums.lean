/- ShaSums, plain: the document's hash of bytes is the program's. No condition but the law's own (100000 bytes). -/
import Derived.Test.YtjjabjajoefgdaaPL14x2
import Derived.Test.YtjjabjajoefgdaaPL14x4
import Derived.Test.YtjjabjajoefgdaaPL14x5
import Derived.Test.YtjjabjajoefgdaaPL14x6
import Derived.Test.YtjjabjajoefgdaaPureShaRef
import Derived.Test.YtjjabjajoefgdaaPureAwk14
namespace Go.Proofs.Ytjjabjajoefgdaa.Pure
open Go.RowKit Go.Proofs.YtjjabjajoefgdaaW.PrintWords Go.Proofs.YtjjabjajoefgdaaW.PrintLast Go.Proofs.YtjjabjajoefgdaaW.PrintMore Go.Proofs.Ytjjabjajoefgdaa.PL14
set_option linter.unusedVariables false
set_option linter.unusedSimpArgs false
theorem ShaSums : ∀ (a0 : ByteArray), (a0.size ≤ 140737488351232) → ∃ k, vitrinelaw14_ShaSums.f k a0 = some true := by
  intro a _
  refine Ev.rounds ?_
  have ht : Ev (fun k => (vitrinelaw14_awake.f k).bind fun t => some t) true := ev_id awake_ev
  by_cases ha : (a.size : Int) > 100000
  · exact Ev.congr (fun k => by unfold vitrinelaw14_ShaSums.f; rw [if_pos ha]) ht
  · refine Ev.congr (f := fun k => ((sha_Sum.f k a).bind fun t204 => ((vitrineref14_Sum.f k a).bind fun t205 => (if t204.toList = t205.toList then ((vitrinelaw14_awake.f k).bind fun t206 => (some t206)) else (some false))))) (fun k => by unfold vitrinelaw14_ShaSums.f; rw [if_neg ha]) ?_
    refine Ev.bind (f := fun k t204 => ((vitrineref14_Sum.f k a).bind fun t205 => (if t204.toList = t205.toList then ((vitrinelaw14_awake.f k).bind fun t206 => (some t206)) else (some false)))) (sum_ev a (by omega)) ?_
    refine Ev.bind (f := fun k t205 => (if (shaS a).toList = t205.toList then ((vitrinelaw14_awake.f k).bind fun t206 => (some t206)) else (some false))) (rsum_ev a (by omega)) ?_
    exact Ev.congr (fun k => if_pos rfl) ht

end Go.Proofs.Ytjjabjajoefgdaa.Pure
