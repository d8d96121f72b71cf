-- Text written by a program of this session (wip/tools).
import Derived.Test.YtaaealngifkaeaaProg
import Derived.Below
import Derived.Deep.Draws
import Derived.Deep.AppendLies
import Derived.Maps.AppendAt
import Derived.OwnWalk
import Derived.Laws.BytesArg
import Derived.Laws.MakeOwn
import Derived.Laws.OwnMore
import Derived.Deep.OwnRows
import Derived.Tactics
import Derived.Lib.ConvBytes
import Derived.Laws.Slices
import Derived.WalkKit
import Derived.KernelRfl
import Derived.RowKit3
import Derived.Deep.LoopGhost
import Derived.Deep.QuietTactic
import Derived.BigQuiet
import Derived.WideLaws
import Derived.Deep.DeepCutAuto
import Derived.Deep.CutBlock
import Derived.Deep.RegionHeld3
import Derived.Laws.Rows
import Derived.Lib.AppendStr
import Derived.ArgAppend
import Derived.Laws.IdiomCopy
import Derived.OrdersHeld
import Derived.Laws.BitsLemmas
import Derived.RowKit
import Derived.Test.YtaaealngifkaeaaBase
import Derived.Test.YtaaealngifkaeaaWWords
import Derived.Test.YtaaealngifkaeaaWLast
import Derived.Test.YtaaealngifkaeaaWTab
import Derived.Test.YtaaealngifkaeaaWFour
import Derived.Test.YtaaealngifkaeaaWQPut
import Derived.Test.YtaaealngifkaeaaWApart
import Derived.Test.YtaaealngifkaeaaWArr
import Derived.Test.YtaaealngifkaeaaWZeros
import Derived.Test.YtaaealngifkaeaaWFoot
import Derived.Test.YtaaealngifkaeaaWKept
import Derived.Test.YtaaealngifkaeaaWShare
import Derived.Test.YtaaealngifkaeaaWN
import Derived.Test.YtaaealngifkaeaaWFootNe
import Derived.Test.YtaaealngifkaeaaWAt
import Derived.Test.YtaaealngifkaeaaWEqStruct
import Derived.Test.YtaaealngifkaeaaWRepsOne
import Derived.Test.YtaaealngifkaeaaWInv
import Derived.Test.YtaaealngifkaeaaWInvWords
import Derived.Test.YtaaealngifkaeaaWGuard
import Derived.Test.YtaaealngifkaeaaWNEv
import Derived.Test.YtaaealngifkaeaaWMore
namespace Go.Proofs.Ytaaealngifkaeaa.QAlu
open Go.RowKit Go.Proofs.YtaaealngifkaeaaW.PrintWords Go.Proofs.YtaaealngifkaeaaW.PrintLast Go.Proofs.YtaaealngifkaeaaW.PrintMore
attribute [local go_sem] max2_int min2_int max_two min_two max_three min_three max_four min_four   -- for this text's walks alone
set_option linter.unusedVariables false
set_option linter.unusedSimpArgs false



def errW : Option Int → Value
  | none => .nilIface
  | some c => .iface 0 (.int .i64 c)
theorem errW_none : errW none = .nilIface := rfl
theorem errW_some (c : Int) : errW (some c) = .iface 0 (.int .i64 c) := rfl

-- the values' own types

end Go.Proofs.Ytaaealngifkaeaa.QAlu
