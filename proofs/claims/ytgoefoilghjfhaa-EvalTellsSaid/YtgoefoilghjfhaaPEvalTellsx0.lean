-- PRINTED BY print.sh 35421559b90ae4d0a3588c463048766b98c2df88dd9212a6774a882060cdf62d: not written by this session
import Derived.Test.YtgoefoilghjfhaaProg
import Derived.Below
import Derived.Deep.Draws
import Derived.Deep.AppendLies
import Derived.Maps.AppendAt
import Derived.OwnWalk
import Derived.Laws.BytesArg
import Derived.Laws.MakeOwn
import Derived.Laws.OwnMore
import Derived.Deep.OwnRows
import Derived.Tactics
import Derived.Lib.ConvBytes
import Derived.Laws.Slices
import Derived.WalkKit
import Derived.KernelRfl
import Derived.RowKit3
import Derived.Deep.LoopGhost
import Derived.Deep.QuietTactic
import Derived.BigQuiet
import Derived.WideLaws
import Derived.Deep.DeepCutAuto
import Derived.Deep.CutBlock
import Derived.Deep.RegionHeld3
import Derived.Laws.Rows
import Derived.Lib.AppendStr
import Derived.ArgAppend
import Derived.Laws.IdiomCopy
import Derived.OrdersHeld
import Derived.Laws.BitsLemmas
import Derived.RowKit
import Derived.Test.YtgoefoilghjfhaaWWords
import Derived.Test.YtgoefoilghjfhaaWLast
import Derived.Test.YtgoefoilghjfhaaWTab
import Derived.Test.YtgoefoilghjfhaaWFour
import Derived.Test.YtgoefoilghjfhaaWQPut
import Derived.Test.YtgoefoilghjfhaaWApart
import Derived.Test.YtgoefoilghjfhaaWArr
import Derived.Test.YtgoefoilghjfhaaWZeros
import Derived.Test.YtgoefoilghjfhaaWFoot
import Derived.Test.YtgoefoilghjfhaaWKept
import Derived.Test.YtgoefoilghjfhaaWShare
import Derived.Test.YtgoefoilghjfhaaWN
import Derived.Test.YtgoefoilghjfhaaWFootNe
import Derived.Test.YtgoefoilghjfhaaWAt
import Derived.Test.YtgoefoilghjfhaaWEqStruct
import Derived.Test.YtgoefoilghjfhaaWRepsOne
import Derived.Test.YtgoefoilghjfhaaWInv
import Derived.Test.YtgoefoilghjfhaaWInvWords
import Derived.Test.YtgoefoilghjfhaaWGuard
import Derived.Test.YtgoefoilghjfhaaWNEv
import Derived.Test.YtgoefoilghjfhaaWMore
namespace Go.Proofs.Ytgoefoilghjfhaa.PEvalTells
open Go.RowKit Go.Proofs.YtgoefoilghjfhaaW.PrintWords Go.Proofs.YtgoefoilghjfhaaW.PrintLast Go.Proofs.YtgoefoilghjfhaaW.PrintMore
attribute [local go_sem] max2_int min2_int max_two min_two max_three min_three max_four min_four   -- for this text's walks alone
set_option linter.unusedVariables false
set_option linter.unusedSimpArgs false



def errW : Option Int → Value
  | none => .nilIface
  | some c => .iface 0 (.int .i64 c)
theorem errW_none : errW none = .nilIface := rfl
theorem errW_some (c : Int) : errW (some c) = .iface 0 (.int .i64 c) := rfl

-- the values' own types

end Go.Proofs.Ytgoefoilghjfhaa.PEvalTells
