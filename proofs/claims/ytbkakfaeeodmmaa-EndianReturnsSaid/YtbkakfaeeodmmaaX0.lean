/- The calls of functions of the given program come to what the Lean functions of the same names tell, at all arguments at which these tell something; no other condition. Written by a program of this session. -/
import Derived.Test.YtbkakfaeeodmmaaProg
import Derived.Below
import Derived.Deep.Draws
import Derived.Deep.AppendLies
import Derived.Maps.AppendAt
import Derived.OwnWalk
import Derived.Laws.BytesArg
import Derived.Laws.MakeOwn
import Derived.Laws.OwnMore
import Derived.Deep.OwnRows
import Derived.Tactics
import Derived.Lib.ConvBytes
import Derived.Laws.Slices
import Derived.WalkKit
import Derived.KernelRfl
import Derived.RowKit3
import Derived.Deep.LoopGhost
import Derived.Deep.QuietTactic
import Derived.BigQuiet
import Derived.WideLaws
import Derived.Deep.DeepCutAuto
import Derived.Deep.CutBlock
import Derived.Deep.RegionHeld3
import Derived.Laws.Rows
import Derived.Lib.AppendStr
import Derived.ArgAppend
import Derived.Laws.IdiomCopy
import Derived.OrdersHeld
import Derived.Laws.BitsLemmas
import Derived.RowKit
import Derived.Test.YtbkakfaeeodmmaaWWords
import Derived.Test.YtbkakfaeeodmmaaWLast
import Derived.Test.YtbkakfaeeodmmaaWTab
import Derived.Test.YtbkakfaeeodmmaaWFour
import Derived.Test.YtbkakfaeeodmmaaWQPut
import Derived.Test.YtbkakfaeeodmmaaWApart
import Derived.Test.YtbkakfaeeodmmaaWArr
import Derived.Test.YtbkakfaeeodmmaaWZeros
import Derived.Test.YtbkakfaeeodmmaaWFoot
import Derived.Test.YtbkakfaeeodmmaaWKept
import Derived.Test.YtbkakfaeeodmmaaWShare
import Derived.Test.YtbkakfaeeodmmaaWN
import Derived.Test.YtbkakfaeeodmmaaWFootNe
import Derived.Test.YtbkakfaeeodmmaaWAt
import Derived.Test.YtbkakfaeeodmmaaWEqStruct
import Derived.Test.YtbkakfaeeodmmaaWRepsOne
import Derived.Test.YtbkakfaeeodmmaaWInv
import Derived.Test.YtbkakfaeeodmmaaWInvWords
import Derived.Test.YtbkakfaeeodmmaaWGuard
import Derived.Test.YtbkakfaeeodmmaaWNEv
import Derived.Test.YtbkakfaeeodmmaaWMore
namespace Go.Proofs.Ytbkakfaeeodmmaa.G
open Go.RowKit Go.Proofs.YtbkakfaeeodmmaaW.PrintWords Go.Proofs.YtbkakfaeeodmmaaW.PrintLast Go.Proofs.YtbkakfaeeodmmaaW.PrintMore
attribute [local go_sem] max2_int min2_int max_two min_two max_three min_three max_four min_four   -- for this text's walks alone
set_option linter.unusedVariables false
set_option linter.unusedSimpArgs false



def errW : Option Int → Value
  | none => .nilIface
  | some c => .iface 0 (.int .i64 c)
theorem errW_none : errW none = .nilIface := rfl
theorem errW_some (c : Int) : errW (some c) = .iface 0 (.int .i64 c) := rfl

theorem info5 : (Try.prog.info? 5).map (fun i => (i.zero, i.size, i.bytes)) = some (some (.int .u8 0), 1, 1) := by kernel_rfl
-- the values' own types

end Go.Proofs.Ytbkakfaeeodmmaa.G
