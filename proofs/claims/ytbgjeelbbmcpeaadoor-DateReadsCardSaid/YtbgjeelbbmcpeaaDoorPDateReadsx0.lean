-- Printed by a wrapper of this session's round the kit's print.py; Lean checks it.
import Derived.Test.YtbgjeelbbmcpeaaDoorProg
import Derived.Below
import Derived.Deep.Draws
import Derived.Deep.AppendLies
import Derived.Maps.AppendAt
import Derived.OwnWalk
import Derived.Laws.BytesArg
import Derived.Laws.MakeOwn
import Derived.Laws.OwnMore
import Derived.Deep.OwnRows
import Derived.Tactics
import Derived.Lib.ConvBytes
import Derived.Laws.Slices
import Derived.WalkKit
import Derived.KernelRfl
import Derived.RowKit3
import Derived.Deep.LoopGhost
import Derived.Deep.QuietTactic
import Derived.BigQuiet
import Derived.WideLaws
import Derived.Deep.DeepCutAuto
import Derived.Deep.CutBlock
import Derived.Deep.RegionHeld3
import Derived.Laws.Rows
import Derived.Lib.AppendStr
import Derived.ArgAppend
import Derived.Laws.IdiomCopy
import Derived.OrdersHeld
import Derived.Laws.BitsLemmas
import Derived.RowKit
import Derived.Test.YtbgjeelbbmcpeaaDoorMlaidDateReads
import Derived.Test.YtbgjeelbbmcpeaaDoorMascode2
import Derived.Lib.ItoaNum
import Derived.Test.YtbgjeelbbmcpeaaDoorMshelf
import Derived.LoopN
import Derived.Lib.SmallJoins
import Derived.Test.YtbgjeelbbmcpeaaDoorWWords
import Derived.Test.YtbgjeelbbmcpeaaDoorWLast
import Derived.Test.YtbgjeelbbmcpeaaDoorWTab
import Derived.Test.YtbgjeelbbmcpeaaDoorWFour
import Derived.Test.YtbgjeelbbmcpeaaDoorWQPut
import Derived.Test.YtbgjeelbbmcpeaaDoorWApart
import Derived.Test.YtbgjeelbbmcpeaaDoorWArr
import Derived.Test.YtbgjeelbbmcpeaaDoorWZeros
import Derived.Test.YtbgjeelbbmcpeaaDoorWFoot
import Derived.Test.YtbgjeelbbmcpeaaDoorWKept
import Derived.Test.YtbgjeelbbmcpeaaDoorWShare
import Derived.Test.YtbgjeelbbmcpeaaDoorWN
import Derived.Test.YtbgjeelbbmcpeaaDoorWFootNe
import Derived.Test.YtbgjeelbbmcpeaaDoorWAt
import Derived.Test.YtbgjeelbbmcpeaaDoorWEqStruct
import Derived.Test.YtbgjeelbbmcpeaaDoorWRepsOne
import Derived.Test.YtbgjeelbbmcpeaaDoorWInv
import Derived.Test.YtbgjeelbbmcpeaaDoorWInvWords
import Derived.Test.YtbgjeelbbmcpeaaDoorWGuard
import Derived.Test.YtbgjeelbbmcpeaaDoorWNEv
import Derived.Test.YtbgjeelbbmcpeaaDoorWMore
namespace Go.Proofs.YtbgjeelbbmcpeaaDoor.PDateReads
open Go.RowKit Go.Proofs.YtbgjeelbbmcpeaaDoorW.PrintWords Go.Proofs.YtbgjeelbbmcpeaaDoorW.PrintLast Go.Proofs.YtbgjeelbbmcpeaaDoorW.PrintMore
attribute [local go_sem] max2_int min2_int max_two min_two max_three min_three max_four min_four   -- for this text's walks alone
set_option linter.unusedVariables false
set_option linter.unusedSimpArgs false



def errW : Option Int → Value
  | none => .nilIface
  | some c => .iface 32 (.int .i64 c)
theorem errW_none : errW none = .nilIface := rfl
theorem errW_some (c : Int) : errW (some c) = .iface 32 (.int .i64 c) := rfl

theorem info3 : (Tryd.prog.info? 3).map (fun i => (i.zero, i.size, i.bytes)) = some (some (.int .i64 0), 1, 8) := by kernel_rfl
-- the values' own types

end Go.Proofs.YtbgjeelbbmcpeaaDoor.PDateReads
