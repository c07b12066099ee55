-- Printed by a wrapper of this session's round the kit's print.py; Lean checks it.
import Derived.Test.YtfpbibfoipbahaaDoorProg
import Derived.Below
import Derived.Deep.Draws
import Derived.Deep.AppendLies
import Derived.Maps.AppendAt
import Derived.OwnWalk
import Derived.Laws.BytesArg
import Derived.Laws.MakeOwn
import Derived.Laws.OwnMore
import Derived.Deep.OwnRows
import Derived.Tactics
import Derived.Lib.ConvBytes
import Derived.Laws.Slices
import Derived.WalkKit
import Derived.KernelRfl
import Derived.RowKit3
import Derived.Deep.LoopGhost
import Derived.Deep.QuietTactic
import Derived.BigQuiet
import Derived.WideLaws
import Derived.Deep.DeepCutAuto
import Derived.Deep.CutBlock
import Derived.Deep.RegionHeld3
import Derived.Laws.Rows
import Derived.Lib.AppendStr
import Derived.ArgAppend
import Derived.Laws.IdiomCopy
import Derived.OrdersHeld
import Derived.Laws.BitsLemmas
import Derived.RowKit
import Derived.Test.YtfpbibfoipbahaaDoorMascode
import Derived.Test.YtfpbibfoipbahaaDoorWWords
import Derived.Test.YtfpbibfoipbahaaDoorWLast
import Derived.Test.YtfpbibfoipbahaaDoorWTab
import Derived.Test.YtfpbibfoipbahaaDoorWFour
import Derived.Test.YtfpbibfoipbahaaDoorWQPut
import Derived.Test.YtfpbibfoipbahaaDoorWApart
import Derived.Test.YtfpbibfoipbahaaDoorWArr
import Derived.Test.YtfpbibfoipbahaaDoorWZeros
import Derived.Test.YtfpbibfoipbahaaDoorWFoot
import Derived.Test.YtfpbibfoipbahaaDoorWKept
import Derived.Test.YtfpbibfoipbahaaDoorWShare
import Derived.Test.YtfpbibfoipbahaaDoorWN
import Derived.Test.YtfpbibfoipbahaaDoorWFootNe
import Derived.Test.YtfpbibfoipbahaaDoorWAt
import Derived.Test.YtfpbibfoipbahaaDoorWEqStruct
import Derived.Test.YtfpbibfoipbahaaDoorWRepsOne
import Derived.Test.YtfpbibfoipbahaaDoorWInv
import Derived.Test.YtfpbibfoipbahaaDoorWInvWords
import Derived.Test.YtfpbibfoipbahaaDoorWGuard
import Derived.Test.YtfpbibfoipbahaaDoorWNEv
import Derived.Test.YtfpbibfoipbahaaDoorWMore
namespace Go.Proofs.YtfpbibfoipbahaaDoor.PWideNear
open Go.RowKit Go.Proofs.YtfpbibfoipbahaaDoorW.PrintWords Go.Proofs.YtfpbibfoipbahaaDoorW.PrintLast Go.Proofs.YtfpbibfoipbahaaDoorW.PrintMore
attribute [local go_sem] max2_int min2_int max_two min_two max_three min_three max_four min_four   -- for this text's walks alone
set_option linter.unusedVariables false
set_option linter.unusedSimpArgs false



def errW : Option Int → Value
  | none => .nilIface
  | some c => .iface 30 (.int .i64 c)
theorem errW_none : errW none = .nilIface := rfl
theorem errW_some (c : Int) : errW (some c) = .iface 30 (.int .i64 c) := rfl

-- the values' own types

end Go.Proofs.YtfpbibfoipbahaaDoor.PWideNear
