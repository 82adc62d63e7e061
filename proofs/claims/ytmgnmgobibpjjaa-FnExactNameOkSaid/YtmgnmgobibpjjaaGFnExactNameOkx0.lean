/- What the Go functions that FnExactNameOk reaches come to, walked step by step; there is no condition beyond those each statement names. -/
import Derived.Test.YtmgnmgobibpjjaaProg
import Derived.Below
import Derived.Deep.Draws
import Derived.Deep.AppendLies
import Derived.Maps.AppendAt
import Derived.OwnWalk
import Derived.Laws.BytesArg
import Derived.Laws.MakeOwn
import Derived.Laws.OwnMore
import Derived.Deep.OwnRows
import Derived.Tactics
import Derived.Lib.ConvBytes
import Derived.Laws.Slices
import Derived.WalkKit
import Derived.KernelRfl
import Derived.RowKit3
import Derived.Deep.LoopGhost
import Derived.Deep.QuietTactic
import Derived.BigQuiet
import Derived.WideLaws
import Derived.Deep.DeepCutAuto
import Derived.Deep.CutBlock
import Derived.Deep.RegionHeld3
import Derived.Laws.Rows
import Derived.Lib.AppendStr
import Derived.ArgAppend
import Derived.Laws.IdiomCopy
import Derived.OrdersHeld
import Derived.Laws.BitsLemmas
import Derived.RowKit
import Derived.Test.YtmgnmgobibpjjaaUWords
import Derived.Test.YtmgnmgobibpjjaaULast
import Derived.Test.YtmgnmgobibpjjaaUTab
import Derived.Test.YtmgnmgobibpjjaaUFour
import Derived.Test.YtmgnmgobibpjjaaUQPut
import Derived.Test.YtmgnmgobibpjjaaUApart
import Derived.Test.YtmgnmgobibpjjaaUArr
import Derived.Test.YtmgnmgobibpjjaaUZeros
import Derived.Test.YtmgnmgobibpjjaaUFoot
import Derived.Test.YtmgnmgobibpjjaaUKept
import Derived.Test.YtmgnmgobibpjjaaUShare
import Derived.Test.YtmgnmgobibpjjaaUN
import Derived.Test.YtmgnmgobibpjjaaUFootNe
import Derived.Test.YtmgnmgobibpjjaaUAt
import Derived.Test.YtmgnmgobibpjjaaUEqStruct
import Derived.Test.YtmgnmgobibpjjaaURepsOne
import Derived.Test.YtmgnmgobibpjjaaUInv
import Derived.Test.YtmgnmgobibpjjaaUInvWords
import Derived.Test.YtmgnmgobibpjjaaUGuard
import Derived.Test.YtmgnmgobibpjjaaUNEv
import Derived.Test.YtmgnmgobibpjjaaUMore
import Derived.Test.YtmgnmgobibpjjaaUClipK
namespace Go.Proofs.Ytmgnmgobibpjjaa.GFnExactNameOk
open Go.RowKit Go.Proofs.YtmgnmgobibpjjaaU.PrintWords Go.Proofs.YtmgnmgobibpjjaaU.PrintLast Go.Proofs.YtmgnmgobibpjjaaU.PrintMore
attribute [local go_sem] max2_int min2_int max_two min_two max_three min_three max_four min_four   -- for this text's walks alone
set_option linter.unusedVariables false
set_option linter.unusedSimpArgs false



def errW : Option Int → Value
  | none => .nilIface
  | some c => .iface 0 (.int .i64 c)
theorem errW_none : errW none = .nilIface := rfl
theorem errW_some (c : Int) : errW (some c) = .iface 0 (.int .i64 c) := rfl

theorem info5 : (Try.prog.info? 5).map (fun i => (i.zero, i.size, i.bytes)) = some (some (.int .u8 0), 1, 1) := by kernel_rfl
-- the values' own types

end Go.Proofs.Ytmgnmgobibpjjaa.GFnExactNameOk
