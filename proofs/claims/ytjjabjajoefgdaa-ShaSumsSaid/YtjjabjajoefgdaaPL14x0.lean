/- Printed for this claim by a program of this session over the kit's print program: the Go functions as Lean functions, and proofs that the calls come to these answers. No conditions. -/
import Derived.Test.YtjjabjajoefgdaaProg
import Derived.Below
import Derived.Deep.Draws
import Derived.Deep.AppendLies
import Derived.Maps.AppendAt
import Derived.OwnWalk
import Derived.Laws.BytesArg
import Derived.Laws.MakeOwn
import Derived.Laws.OwnMore
import Derived.Deep.OwnRows
import Derived.Tactics
import Derived.Lib.ConvBytes
import Derived.Laws.Slices
import Derived.WalkKit
import Derived.KernelRfl
import Derived.RowKit3
import Derived.Deep.LoopGhost
import Derived.Deep.QuietTactic
import Derived.BigQuiet
import Derived.WideLaws
import Derived.Deep.DeepCutAuto
import Derived.Deep.CutBlock
import Derived.Deep.RegionHeld3
import Derived.Laws.Rows
import Derived.Lib.AppendStr
import Derived.ArgAppend
import Derived.Laws.IdiomCopy
import Derived.OrdersHeld
import Derived.Laws.BitsLemmas
import Derived.RowKit
import Derived.Test.YtjjabjajoefgdaaWWords
import Derived.Test.YtjjabjajoefgdaaWLast
import Derived.Test.YtjjabjajoefgdaaWTab
import Derived.Test.YtjjabjajoefgdaaWFour
import Derived.Test.YtjjabjajoefgdaaWQPut
import Derived.Test.YtjjabjajoefgdaaWApart
import Derived.Test.YtjjabjajoefgdaaWArr
import Derived.Test.YtjjabjajoefgdaaWZeros
import Derived.Test.YtjjabjajoefgdaaWFoot
import Derived.Test.YtjjabjajoefgdaaWKept
import Derived.Test.YtjjabjajoefgdaaWShare
import Derived.Test.YtjjabjajoefgdaaWN
import Derived.Test.YtjjabjajoefgdaaWFootNe
import Derived.Test.YtjjabjajoefgdaaWAt
import Derived.Test.YtjjabjajoefgdaaWEqStruct
import Derived.Test.YtjjabjajoefgdaaWRepsOne
import Derived.Test.YtjjabjajoefgdaaWInv
import Derived.Test.YtjjabjajoefgdaaWInvWords
import Derived.Test.YtjjabjajoefgdaaWGuard
import Derived.Test.YtjjabjajoefgdaaWNEv
import Derived.Test.YtjjabjajoefgdaaWMore
namespace Go.Proofs.Ytjjabjajoefgdaa.PL14
open Go.RowKit Go.Proofs.YtjjabjajoefgdaaW.PrintWords Go.Proofs.YtjjabjajoefgdaaW.PrintLast Go.Proofs.YtjjabjajoefgdaaW.PrintMore
attribute [local go_sem] max2_int min2_int max_two min_two max_three min_three max_four min_four   -- for this text's walks alone
set_option linter.unusedVariables false
set_option linter.unusedSimpArgs false



def errW : Option Int → Value
  | none => .nilIface
  | some c => .iface 0 (.int .i64 c)
theorem errW_none : errW none = .nilIface := rfl
theorem errW_some (c : Int) : errW (some c) = .iface 0 (.int .i64 c) := rfl

theorem info3 : (Try.prog.info? 3).map (fun i => (i.zero, i.size, i.bytes)) = some (some (.int .i64 0), 1, 8) := by kernel_rfl
theorem info5 : (Try.prog.info? 5).map (fun i => (i.zero, i.size, i.bytes)) = some (some (.int .u8 0), 1, 1) := by kernel_rfl
-- the values' own types

end Go.Proofs.Ytjjabjajoefgdaa.PL14
