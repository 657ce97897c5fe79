/- ShaHex up to a size, plain. Condition: at most 1048576 bytes. -/
import Derived.Test.YtjjabjajoefgdaaPL14x5
import Derived.Test.YtjjabjajoefgdaaPL14x7
import Derived.Test.YtjjabjajoefgdaaPL14x8
import Derived.Test.YtjjabjajoefgdaaPureBase
import Derived.Test.YtjjabjajoefgdaaPureHex
import Derived.Test.YtjjabjajoefgdaaPurePad
namespace Go.Proofs.Ytjjabjajoefgdaa.Pure
open Go.RowKit Go.Proofs.YtjjabjajoefgdaaW.PrintWords Go.Proofs.YtjjabjajoefgdaaW.PrintLast Go.Proofs.YtjjabjajoefgdaaW.PrintMore Go.Proofs.Ytjjabjajoefgdaa.PL14
set_option linter.unusedVariables false
set_option linter.unusedSimpArgs false
theorem ShaHexUpto : ∀ (a0 : ByteArray), (a0.size ≤ 1048576) → ∃ k, vitrinelaw14_ShaHex.f k a0 = some true := by
  intro a h
  refine Ev.rounds ?_
  refine Ev.bind (f := fun k t213 => ((vitrineref14_Hex.f k a).bind fun t214 => (if t213.toList = t214.toList then ((vitrinelaw14_awake.f k).bind fun t215 => (some t215)) else (some false)))) (hex_ev a (by omega)) ?_
  refine Ev.bind (f := fun k t214 => (if (strOfNums (hexL a a.size)).toList = t214.toList then ((vitrinelaw14_awake.f k).bind fun t215 => (some t215)) else (some false))) (rhex_ev a (by omega)) ?_
  exact Ev.congr (fun k => if_pos rfl) (ev_id awake_ev)

end Go.Proofs.Ytjjabjajoefgdaa.Pure
