-- Printed by a wrapper of this session's round the kit's print.py; Lean checks it.
import Derived.Test.YtdojgjbiilnjpaaProg
import Derived.Below
import Derived.Deep.Draws
import Derived.Deep.AppendLies
import Derived.Maps.AppendAt
import Derived.OwnWalk
import Derived.Laws.BytesArg
import Derived.Laws.MakeOwn
import Derived.Laws.OwnMore
import Derived.Deep.OwnRows
import Derived.Tactics
import Derived.Lib.ConvBytes
import Derived.Laws.Slices
import Derived.WalkKit
import Derived.KernelRfl
import Derived.RowKit3
import Derived.Deep.LoopGhost
import Derived.Deep.QuietTactic
import Derived.BigQuiet
import Derived.WideLaws
import Derived.Deep.DeepCutAuto
import Derived.Deep.CutBlock
import Derived.Deep.RegionHeld3
import Derived.Laws.Rows
import Derived.Lib.AppendStr
import Derived.ArgAppend
import Derived.Laws.IdiomCopy
import Derived.OrdersHeld
import Derived.Laws.BitsLemmas
import Derived.RowKit
import Derived.Lib.ItoaNum
import Derived.Test.YtdojgjbiilnjpaaMshelf
import Derived.Test.YtdojgjbiilnjpaaMquilbase
import Derived.Test.YtdojgjbiilnjpaaMquilw
import Derived.Test.YtdojgjbiilnjpaaMquilx
import Derived.Test.YtdojgjbiilnjpaaMquill
import Derived.Test.YtdojgjbiilnjpaaMquilm
import Derived.Test.YtdojgjbiilnjpaaMquiln
import Derived.Test.YtdojgjbiilnjpaaMquilo
import Derived.Test.YtdojgjbiilnjpaaMquilp
import Derived.Test.YtdojgjbiilnjpaaMquilq
import Derived.Test.YtdojgjbiilnjpaaMquilr
import Derived.Test.YtdojgjbiilnjpaaMquils
import Derived.Test.YtdojgjbiilnjpaaMquilord
import Derived.Test.YtdojgjbiilnjpaaWWords
import Derived.Test.YtdojgjbiilnjpaaWLast
import Derived.Test.YtdojgjbiilnjpaaWTab
import Derived.Test.YtdojgjbiilnjpaaWFour
import Derived.Test.YtdojgjbiilnjpaaWQPut
import Derived.Test.YtdojgjbiilnjpaaWApart
import Derived.Test.YtdojgjbiilnjpaaWArr
import Derived.Test.YtdojgjbiilnjpaaWZeros
import Derived.Test.YtdojgjbiilnjpaaWFoot
import Derived.Test.YtdojgjbiilnjpaaWKept
import Derived.Test.YtdojgjbiilnjpaaWShare
import Derived.Test.YtdojgjbiilnjpaaWN
import Derived.Test.YtdojgjbiilnjpaaWFootNe
import Derived.Test.YtdojgjbiilnjpaaWAt
import Derived.Test.YtdojgjbiilnjpaaWEqStruct
import Derived.Test.YtdojgjbiilnjpaaWRepsOne
import Derived.Test.YtdojgjbiilnjpaaWInv
import Derived.Test.YtdojgjbiilnjpaaWInvWords
import Derived.Test.YtdojgjbiilnjpaaWGuard
import Derived.Test.YtdojgjbiilnjpaaWNEv
import Derived.Test.YtdojgjbiilnjpaaWMore
namespace Go.Proofs.Ytdojgjbiilnjpaa.PQuillOrders
open Go.RowKit Go.Proofs.YtdojgjbiilnjpaaW.PrintWords Go.Proofs.YtdojgjbiilnjpaaW.PrintLast Go.Proofs.YtdojgjbiilnjpaaW.PrintMore
attribute [local go_sem] max2_int min2_int max_two min_two max_three min_three max_four min_four   -- for this text's walks alone
set_option linter.unusedVariables false
set_option linter.unusedSimpArgs false



def errW : Option Int → Value
  | none => .nilIface
  | some c => .iface 0 (.int .i64 c)
theorem errW_none : errW none = .nilIface := rfl
theorem errW_some (c : Int) : errW (some c) = .iface 0 (.int .i64 c) := rfl

-- the values' own types

end Go.Proofs.Ytdojgjbiilnjpaa.PQuillOrders
