-- printed by a call of the kit's print.py over several functions of this seat (wip/pr.sh)
import Derived.Test.YtjbnlebnofnkoaaDoorProg
import Derived.Below
import Derived.Deep.Draws
import Derived.Deep.AppendLies
import Derived.Maps.AppendAt
import Derived.OwnWalk
import Derived.Laws.BytesArg
import Derived.Laws.MakeOwn
import Derived.Laws.OwnMore
import Derived.Deep.OwnRows
import Derived.Tactics
import Derived.Lib.ConvBytes
import Derived.Laws.Slices
import Derived.WalkKit
import Derived.KernelRfl
import Derived.RowKit3
import Derived.Deep.LoopGhost
import Derived.Deep.QuietTactic
import Derived.BigQuiet
import Derived.WideLaws
import Derived.Deep.DeepCutAuto
import Derived.Deep.CutBlock
import Derived.Deep.RegionHeld3
import Derived.Laws.Rows
import Derived.Lib.AppendStr
import Derived.ArgAppend
import Derived.Laws.IdiomCopy
import Derived.OrdersHeld
import Derived.Laws.BitsLemmas
import Derived.RowKit
import Derived.Test.YtjbnlebnofnkoaaDoorGiven03
import Derived.Test.YtjbnlebnofnkoaaDoorWWords
import Derived.Test.YtjbnlebnofnkoaaDoorWLast
import Derived.Test.YtjbnlebnofnkoaaDoorWTab
import Derived.Test.YtjbnlebnofnkoaaDoorWFour
import Derived.Test.YtjbnlebnofnkoaaDoorWQPut
import Derived.Test.YtjbnlebnofnkoaaDoorWApart
import Derived.Test.YtjbnlebnofnkoaaDoorWArr
import Derived.Test.YtjbnlebnofnkoaaDoorWZeros
import Derived.Test.YtjbnlebnofnkoaaDoorWFoot
import Derived.Test.YtjbnlebnofnkoaaDoorWKept
import Derived.Test.YtjbnlebnofnkoaaDoorWShare
import Derived.Test.YtjbnlebnofnkoaaDoorWN
import Derived.Test.YtjbnlebnofnkoaaDoorWFootNe
import Derived.Test.YtjbnlebnofnkoaaDoorWAt
import Derived.Test.YtjbnlebnofnkoaaDoorWEqStruct
import Derived.Test.YtjbnlebnofnkoaaDoorWRepsOne
import Derived.Test.YtjbnlebnofnkoaaDoorWInv
import Derived.Test.YtjbnlebnofnkoaaDoorWInvWords
import Derived.Test.YtjbnlebnofnkoaaDoorWGuard
import Derived.Test.YtjbnlebnofnkoaaDoorWNEv
import Derived.Test.YtjbnlebnofnkoaaDoorWMore
namespace Go.Proofs.YtjbnlebnofnkoaaDoor.PBases
open Go.RowKit Go.Proofs.YtjbnlebnofnkoaaDoorW.PrintWords Go.Proofs.YtjbnlebnofnkoaaDoorW.PrintLast Go.Proofs.YtjbnlebnofnkoaaDoorW.PrintMore
attribute [local go_sem] max2_int min2_int max_two min_two max_three min_three max_four min_four   -- for this text's walks alone
set_option linter.unusedVariables false
set_option linter.unusedSimpArgs false



def errW : Option Int → Value
  | none => .nilIface
  | some c => .iface 0 (.int .i64 c)
theorem errW_none : errW none = .nilIface := rfl
theorem errW_some (c : Int) : errW (some c) = .iface 0 (.int .i64 c) := rfl

-- the values' own types

end Go.Proofs.YtjbnlebnofnkoaaDoor.PBases
