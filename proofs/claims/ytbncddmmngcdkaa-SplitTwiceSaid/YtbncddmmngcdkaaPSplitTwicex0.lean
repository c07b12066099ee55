-- Printed by a wrapper of this session's round the kit's print.py; Lean checks it.
import Derived.Test.YtbncddmmngcdkaaProg
import Derived.Below
import Derived.Deep.Draws
import Derived.Deep.AppendLies
import Derived.Maps.AppendAt
import Derived.OwnWalk
import Derived.Laws.BytesArg
import Derived.Laws.MakeOwn
import Derived.Laws.OwnMore
import Derived.Deep.OwnRows
import Derived.Tactics
import Derived.Lib.ConvBytes
import Derived.Laws.Slices
import Derived.WalkKit
import Derived.KernelRfl
import Derived.RowKit3
import Derived.Deep.LoopGhost
import Derived.Deep.QuietTactic
import Derived.BigQuiet
import Derived.WideLaws
import Derived.Deep.DeepCutAuto
import Derived.Deep.CutBlock
import Derived.Deep.RegionHeld3
import Derived.Laws.Rows
import Derived.Lib.AppendStr
import Derived.ArgAppend
import Derived.Laws.IdiomCopy
import Derived.OrdersHeld
import Derived.Laws.BitsLemmas
import Derived.RowKit
import Derived.Test.YtbncddmmngcdkaaWWords
import Derived.Test.YtbncddmmngcdkaaWLast
import Derived.Test.YtbncddmmngcdkaaWTab
import Derived.Test.YtbncddmmngcdkaaWFour
import Derived.Test.YtbncddmmngcdkaaWQPut
import Derived.Test.YtbncddmmngcdkaaWApart
import Derived.Test.YtbncddmmngcdkaaWArr
import Derived.Test.YtbncddmmngcdkaaWZeros
import Derived.Test.YtbncddmmngcdkaaWFoot
import Derived.Test.YtbncddmmngcdkaaWKept
import Derived.Test.YtbncddmmngcdkaaWShare
import Derived.Test.YtbncddmmngcdkaaWN
import Derived.Test.YtbncddmmngcdkaaWFootNe
import Derived.Test.YtbncddmmngcdkaaWAt
import Derived.Test.YtbncddmmngcdkaaWEqStruct
import Derived.Test.YtbncddmmngcdkaaWRepsOne
import Derived.Test.YtbncddmmngcdkaaWInv
import Derived.Test.YtbncddmmngcdkaaWInvWords
import Derived.Test.YtbncddmmngcdkaaWGuard
import Derived.Test.YtbncddmmngcdkaaWNEv
import Derived.Test.YtbncddmmngcdkaaWMore
namespace Go.Proofs.Ytbncddmmngcdkaa.PSplitTwice
open Go.RowKit Go.Proofs.YtbncddmmngcdkaaW.PrintWords Go.Proofs.YtbncddmmngcdkaaW.PrintLast Go.Proofs.YtbncddmmngcdkaaW.PrintMore
attribute [local go_sem] max2_int min2_int max_two min_two max_three min_three max_four min_four   -- for this text's walks alone
set_option linter.unusedVariables false
set_option linter.unusedSimpArgs false



def errW : Option Int → Value
  | none => .nilIface
  | some c => .iface 36 (.int .i64 c)
theorem errW_none : errW none = .nilIface := rfl
theorem errW_some (c : Int) : errW (some c) = .iface 36 (.int .i64 c) := rfl

-- the values' own types

end Go.Proofs.Ytbncddmmngcdkaa.PSplitTwice
