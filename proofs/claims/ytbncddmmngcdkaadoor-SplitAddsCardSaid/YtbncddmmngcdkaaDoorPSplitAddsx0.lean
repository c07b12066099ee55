-- Printed by a wrapper of this session's round the kit's print.py; Lean checks it.
import Derived.Test.YtbncddmmngcdkaaDoorProg
import Derived.Below
import Derived.Deep.Draws
import Derived.Deep.AppendLies
import Derived.Maps.AppendAt
import Derived.OwnWalk
import Derived.Laws.BytesArg
import Derived.Laws.MakeOwn
import Derived.Laws.OwnMore
import Derived.Deep.OwnRows
import Derived.Tactics
import Derived.Lib.ConvBytes
import Derived.Laws.Slices
import Derived.WalkKit
import Derived.KernelRfl
import Derived.RowKit3
import Derived.Deep.LoopGhost
import Derived.Deep.QuietTactic
import Derived.BigQuiet
import Derived.WideLaws
import Derived.Deep.DeepCutAuto
import Derived.Deep.CutBlock
import Derived.Deep.RegionHeld3
import Derived.Laws.Rows
import Derived.Lib.AppendStr
import Derived.ArgAppend
import Derived.Laws.IdiomCopy
import Derived.OrdersHeld
import Derived.Laws.BitsLemmas
import Derived.RowKit
import Derived.Test.YtbncddmmngcdkaaDoorMascode
import Derived.Test.YtbncddmmngcdkaaDoorWWords
import Derived.Test.YtbncddmmngcdkaaDoorWLast
import Derived.Test.YtbncddmmngcdkaaDoorWTab
import Derived.Test.YtbncddmmngcdkaaDoorWFour
import Derived.Test.YtbncddmmngcdkaaDoorWQPut
import Derived.Test.YtbncddmmngcdkaaDoorWApart
import Derived.Test.YtbncddmmngcdkaaDoorWArr
import Derived.Test.YtbncddmmngcdkaaDoorWZeros
import Derived.Test.YtbncddmmngcdkaaDoorWFoot
import Derived.Test.YtbncddmmngcdkaaDoorWKept
import Derived.Test.YtbncddmmngcdkaaDoorWShare
import Derived.Test.YtbncddmmngcdkaaDoorWN
import Derived.Test.YtbncddmmngcdkaaDoorWFootNe
import Derived.Test.YtbncddmmngcdkaaDoorWAt
import Derived.Test.YtbncddmmngcdkaaDoorWEqStruct
import Derived.Test.YtbncddmmngcdkaaDoorWRepsOne
import Derived.Test.YtbncddmmngcdkaaDoorWInv
import Derived.Test.YtbncddmmngcdkaaDoorWInvWords
import Derived.Test.YtbncddmmngcdkaaDoorWGuard
import Derived.Test.YtbncddmmngcdkaaDoorWNEv
import Derived.Test.YtbncddmmngcdkaaDoorWMore
namespace Go.Proofs.YtbncddmmngcdkaaDoor.PSplitAdds
open Go.RowKit Go.Proofs.YtbncddmmngcdkaaDoorW.PrintWords Go.Proofs.YtbncddmmngcdkaaDoorW.PrintLast Go.Proofs.YtbncddmmngcdkaaDoorW.PrintMore
attribute [local go_sem] max2_int min2_int max_two min_two max_three min_three max_four min_four   -- for this text's walks alone
set_option linter.unusedVariables false
set_option linter.unusedSimpArgs false



def errW : Option Int → Value
  | none => .nilIface
  | some c => .iface 31 (.int .i64 c)
theorem errW_none : errW none = .nilIface := rfl
theorem errW_some (c : Int) : errW (some c) = .iface 31 (.int .i64 c) := rfl

-- the values' own types

end Go.Proofs.YtbncddmmngcdkaaDoor.PSplitAdds
