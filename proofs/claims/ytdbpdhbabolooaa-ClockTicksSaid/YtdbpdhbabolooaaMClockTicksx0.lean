-- Written by a program of this session (wip/myprint in its repo: the kit's print with additions of its own).
import Derived.Test.YtdbpdhbabolooaaProg
import Derived.Below
import Derived.Deep.Draws
import Derived.Deep.AppendLies
import Derived.Maps.AppendAt
import Derived.OwnWalk
import Derived.Laws.BytesArg
import Derived.Laws.MakeOwn
import Derived.Laws.OwnMore
import Derived.Deep.OwnRows
import Derived.Tactics
import Derived.Lib.ConvBytes
import Derived.Laws.Slices
import Derived.WalkKit
import Derived.KernelRfl
import Derived.RowKit3
import Derived.Deep.LoopGhost
import Derived.Deep.QuietTactic
import Derived.BigQuiet
import Derived.WideLaws
import Derived.Deep.DeepCutAuto
import Derived.Deep.CutBlock
import Derived.Deep.RegionHeld3
import Derived.Laws.Rows
import Derived.Lib.AppendStr
import Derived.ArgAppend
import Derived.Laws.IdiomCopy
import Derived.OrdersHeld
import Derived.Laws.BitsLemmas
import Derived.RowKit
import Derived.Test.YtdbpdhbabolooaaWWords
import Derived.Test.YtdbpdhbabolooaaWLast
import Derived.Test.YtdbpdhbabolooaaWTab
import Derived.Test.YtdbpdhbabolooaaWFour
import Derived.Test.YtdbpdhbabolooaaWQPut
import Derived.Test.YtdbpdhbabolooaaWApart
import Derived.Test.YtdbpdhbabolooaaWArr
import Derived.Test.YtdbpdhbabolooaaWZeros
import Derived.Test.YtdbpdhbabolooaaWFoot
import Derived.Test.YtdbpdhbabolooaaWKept
import Derived.Test.YtdbpdhbabolooaaWShare
import Derived.Test.YtdbpdhbabolooaaWN
import Derived.Test.YtdbpdhbabolooaaWFootNe
import Derived.Test.YtdbpdhbabolooaaWAt
import Derived.Test.YtdbpdhbabolooaaWEqStruct
import Derived.Test.YtdbpdhbabolooaaWRepsOne
import Derived.Test.YtdbpdhbabolooaaWInv
import Derived.Test.YtdbpdhbabolooaaWInvWords
import Derived.Test.YtdbpdhbabolooaaWGuard
import Derived.Test.YtdbpdhbabolooaaWNEv
import Derived.Test.YtdbpdhbabolooaaWMore
namespace Go.Proofs.Ytdbpdhbabolooaa.MClockTicks
open Go.RowKit Go.Proofs.YtdbpdhbabolooaaW.PrintWords Go.Proofs.YtdbpdhbabolooaaW.PrintLast Go.Proofs.YtdbpdhbabolooaaW.PrintMore
attribute [local go_sem] max2_int min2_int max_two min_two max_three min_three max_four min_four   -- for this text's walks alone
set_option linter.unusedVariables false
set_option linter.unusedSimpArgs false



def errW : Option Int → Value
  | none => .nilIface
  | some c => .iface 0 (.int .i64 c)
theorem errW_none : errW none = .nilIface := rfl
theorem errW_some (c : Int) : errW (some c) = .iface 0 (.int .i64 c) := rfl

theorem info3 : (Try.prog.info? 3).map (fun i => (i.zero, i.size, i.bytes)) = some (some (.int .i64 0), 1, 8) := by kernel_rfl
-- the values' own types

end Go.Proofs.Ytdbpdhbabolooaa.MClockTicks
