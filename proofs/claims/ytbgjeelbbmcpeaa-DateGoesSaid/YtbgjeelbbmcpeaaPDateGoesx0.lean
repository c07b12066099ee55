-- Printed by a wrapper of this session's round the kit's print.py; Lean checks it.
import Derived.Test.YtbgjeelbbmcpeaaProg
import Derived.Below
import Derived.Deep.Draws
import Derived.Deep.AppendLies
import Derived.Maps.AppendAt
import Derived.OwnWalk
import Derived.Laws.BytesArg
import Derived.Laws.MakeOwn
import Derived.Laws.OwnMore
import Derived.Deep.OwnRows
import Derived.Tactics
import Derived.Lib.ConvBytes
import Derived.Laws.Slices
import Derived.WalkKit
import Derived.KernelRfl
import Derived.RowKit3
import Derived.Deep.LoopGhost
import Derived.Deep.QuietTactic
import Derived.BigQuiet
import Derived.WideLaws
import Derived.Deep.DeepCutAuto
import Derived.Deep.CutBlock
import Derived.Deep.RegionHeld3
import Derived.Laws.Rows
import Derived.Lib.AppendStr
import Derived.ArgAppend
import Derived.Laws.IdiomCopy
import Derived.OrdersHeld
import Derived.Laws.BitsLemmas
import Derived.RowKit
import Derived.Test.YtbgjeelbbmcpeaaWWords
import Derived.Test.YtbgjeelbbmcpeaaWLast
import Derived.Test.YtbgjeelbbmcpeaaWTab
import Derived.Test.YtbgjeelbbmcpeaaWFour
import Derived.Test.YtbgjeelbbmcpeaaWQPut
import Derived.Test.YtbgjeelbbmcpeaaWApart
import Derived.Test.YtbgjeelbbmcpeaaWArr
import Derived.Test.YtbgjeelbbmcpeaaWZeros
import Derived.Test.YtbgjeelbbmcpeaaWFoot
import Derived.Test.YtbgjeelbbmcpeaaWKept
import Derived.Test.YtbgjeelbbmcpeaaWShare
import Derived.Test.YtbgjeelbbmcpeaaWN
import Derived.Test.YtbgjeelbbmcpeaaWFootNe
import Derived.Test.YtbgjeelbbmcpeaaWAt
import Derived.Test.YtbgjeelbbmcpeaaWEqStruct
import Derived.Test.YtbgjeelbbmcpeaaWRepsOne
import Derived.Test.YtbgjeelbbmcpeaaWInv
import Derived.Test.YtbgjeelbbmcpeaaWInvWords
import Derived.Test.YtbgjeelbbmcpeaaWGuard
import Derived.Test.YtbgjeelbbmcpeaaWNEv
import Derived.Test.YtbgjeelbbmcpeaaWMore
namespace Go.Proofs.Ytbgjeelbbmcpeaa.PDateGoes
open Go.RowKit Go.Proofs.YtbgjeelbbmcpeaaW.PrintWords Go.Proofs.YtbgjeelbbmcpeaaW.PrintLast Go.Proofs.YtbgjeelbbmcpeaaW.PrintMore
attribute [local go_sem] max2_int min2_int max_two min_two max_three min_three max_four min_four   -- for this text's walks alone
set_option linter.unusedVariables false
set_option linter.unusedSimpArgs false



def errW : Option Int → Value
  | none => .nilIface
  | some c => .iface 36 (.int .i64 c)
theorem errW_none : errW none = .nilIface := rfl
theorem errW_some (c : Int) : errW (some c) = .iface 36 (.int .i64 c) := rfl

-- the values' own types

end Go.Proofs.Ytbgjeelbbmcpeaa.PDateGoes
