-- written by wip/tools/myprint.py (the kit's print over this seat, hand-made contracts among its own)
import Derived.Test.YtlopceimlipemaaProg
import Derived.Below
import Derived.Deep.Draws
import Derived.Deep.AppendLies
import Derived.Maps.AppendAt
import Derived.OwnWalk
import Derived.Laws.BytesArg
import Derived.Laws.MakeOwn
import Derived.Laws.OwnMore
import Derived.Deep.OwnRows
import Derived.Tactics
import Derived.Lib.ConvBytes
import Derived.Laws.Slices
import Derived.WalkKit
import Derived.KernelRfl
import Derived.RowKit3
import Derived.Deep.LoopGhost
import Derived.Deep.QuietTactic
import Derived.BigQuiet
import Derived.WideLaws
import Derived.Deep.DeepCutAuto
import Derived.Deep.CutBlock
import Derived.Deep.RegionHeld3
import Derived.Laws.Rows
import Derived.Lib.AppendStr
import Derived.ArgAppend
import Derived.Laws.IdiomCopy
import Derived.OrdersHeld
import Derived.Laws.BitsLemmas
import Derived.RowKit
import Derived.Test.YtlopceimlipemaaWWords
import Derived.Test.YtlopceimlipemaaWLast
import Derived.Test.YtlopceimlipemaaWTab
import Derived.Test.YtlopceimlipemaaWFour
import Derived.Test.YtlopceimlipemaaWQPut
import Derived.Test.YtlopceimlipemaaWApart
import Derived.Test.YtlopceimlipemaaWArr
import Derived.Test.YtlopceimlipemaaWZeros
import Derived.Test.YtlopceimlipemaaWFoot
import Derived.Test.YtlopceimlipemaaWKept
import Derived.Test.YtlopceimlipemaaWShare
import Derived.Test.YtlopceimlipemaaWN
import Derived.Test.YtlopceimlipemaaWFootNe
import Derived.Test.YtlopceimlipemaaWAt
import Derived.Test.YtlopceimlipemaaWEqStruct
import Derived.Test.YtlopceimlipemaaWRepsOne
import Derived.Test.YtlopceimlipemaaWInv
import Derived.Test.YtlopceimlipemaaWInvWords
import Derived.Test.YtlopceimlipemaaWGuard
import Derived.Test.YtlopceimlipemaaWNEv
import Derived.Test.YtlopceimlipemaaWMore
namespace Go.Proofs.Ytlopceimlipemaa.RQ
open Go.RowKit Go.Proofs.YtlopceimlipemaaW.PrintWords Go.Proofs.YtlopceimlipemaaW.PrintLast Go.Proofs.YtlopceimlipemaaW.PrintMore
attribute [local go_sem] max2_int min2_int max_two min_two max_three min_three max_four min_four   -- for this text's walks alone
set_option linter.unusedVariables false
set_option linter.unusedSimpArgs false



def errW : Option Int → Value
  | none => .nilIface
  | some c => .iface 0 (.int .i64 c)
theorem errW_none : errW none = .nilIface := rfl
theorem errW_some (c : Int) : errW (some c) = .iface 0 (.int .i64 c) := rfl

-- the values' own types

end Go.Proofs.Ytlopceimlipemaa.RQ
