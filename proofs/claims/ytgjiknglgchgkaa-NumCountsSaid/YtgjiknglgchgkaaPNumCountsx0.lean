-- PRINTED BY print.sh 35421559b90ae4d0a3588c463048766b98c2df88dd9212a6774a882060cdf62d: not written by this session
import Derived.Test.YtgjiknglgchgkaaProg
import Derived.Below
import Derived.Deep.Draws
import Derived.Deep.AppendLies
import Derived.Maps.AppendAt
import Derived.OwnWalk
import Derived.Laws.BytesArg
import Derived.Laws.MakeOwn
import Derived.Laws.OwnMore
import Derived.Deep.OwnRows
import Derived.Tactics
import Derived.Lib.ConvBytes
import Derived.Laws.Slices
import Derived.WalkKit
import Derived.KernelRfl
import Derived.RowKit3
import Derived.Deep.LoopGhost
import Derived.Deep.QuietTactic
import Derived.BigQuiet
import Derived.WideLaws
import Derived.Deep.DeepCutAuto
import Derived.Deep.CutBlock
import Derived.Deep.RegionHeld3
import Derived.Laws.Rows
import Derived.Lib.AppendStr
import Derived.ArgAppend
import Derived.Laws.IdiomCopy
import Derived.OrdersHeld
import Derived.Laws.BitsLemmas
import Derived.RowKit
import Derived.Test.YtgjiknglgchgkaaWWords
import Derived.Test.YtgjiknglgchgkaaWLast
import Derived.Test.YtgjiknglgchgkaaWTab
import Derived.Test.YtgjiknglgchgkaaWFour
import Derived.Test.YtgjiknglgchgkaaWQPut
import Derived.Test.YtgjiknglgchgkaaWApart
import Derived.Test.YtgjiknglgchgkaaWArr
import Derived.Test.YtgjiknglgchgkaaWZeros
import Derived.Test.YtgjiknglgchgkaaWFoot
import Derived.Test.YtgjiknglgchgkaaWKept
import Derived.Test.YtgjiknglgchgkaaWShare
import Derived.Test.YtgjiknglgchgkaaWN
import Derived.Test.YtgjiknglgchgkaaWFootNe
import Derived.Test.YtgjiknglgchgkaaWAt
import Derived.Test.YtgjiknglgchgkaaWEqStruct
import Derived.Test.YtgjiknglgchgkaaWRepsOne
import Derived.Test.YtgjiknglgchgkaaWInv
import Derived.Test.YtgjiknglgchgkaaWInvWords
import Derived.Test.YtgjiknglgchgkaaWGuard
import Derived.Test.YtgjiknglgchgkaaWNEv
import Derived.Test.YtgjiknglgchgkaaWMore
namespace Go.Proofs.Ytgjiknglgchgkaa.PNumCounts
open Go.RowKit Go.Proofs.YtgjiknglgchgkaaW.PrintWords Go.Proofs.YtgjiknglgchgkaaW.PrintLast Go.Proofs.YtgjiknglgchgkaaW.PrintMore
attribute [local go_sem] max2_int min2_int max_two min_two max_three min_three max_four min_four   -- for this text's walks alone
set_option linter.unusedVariables false
set_option linter.unusedSimpArgs false



def errW : Option Int → Value
  | none => .nilIface
  | some c => .iface 0 (.int .i64 c)
theorem errW_none : errW none = .nilIface := rfl
theorem errW_some (c : Int) : errW (some c) = .iface 0 (.int .i64 c) := rfl

-- the values' own types

end Go.Proofs.Ytgjiknglgchgkaa.PNumCounts
