-- Printed by a wrapper of this session's round the kit's print.py; Lean checks it.
import Derived.Test.YtdkdjikfhclmaaaDoorProg
import Derived.Below
import Derived.Deep.Draws
import Derived.Deep.AppendLies
import Derived.Maps.AppendAt
import Derived.OwnWalk
import Derived.Laws.BytesArg
import Derived.Laws.MakeOwn
import Derived.Laws.OwnMore
import Derived.Deep.OwnRows
import Derived.Tactics
import Derived.Lib.ConvBytes
import Derived.Laws.Slices
import Derived.WalkKit
import Derived.KernelRfl
import Derived.RowKit3
import Derived.Deep.LoopGhost
import Derived.Deep.QuietTactic
import Derived.BigQuiet
import Derived.WideLaws
import Derived.Deep.DeepCutAuto
import Derived.Deep.CutBlock
import Derived.Deep.RegionHeld3
import Derived.Laws.Rows
import Derived.Lib.AppendStr
import Derived.ArgAppend
import Derived.Laws.IdiomCopy
import Derived.OrdersHeld
import Derived.Laws.BitsLemmas
import Derived.RowKit
import Derived.Test.YtdkdjikfhclmaaaDoorMlaidSpanCounts
import Derived.Lib.ItoaNum
import Derived.Test.YtdkdjikfhclmaaaDoorMshelf
import Derived.LoopN
import Derived.Lib.SmallJoins
import Derived.Test.YtdkdjikfhclmaaaDoorMascode2
import Derived.Test.YtdkdjikfhclmaaaDoorWWords
import Derived.Test.YtdkdjikfhclmaaaDoorWLast
import Derived.Test.YtdkdjikfhclmaaaDoorWTab
import Derived.Test.YtdkdjikfhclmaaaDoorWFour
import Derived.Test.YtdkdjikfhclmaaaDoorWQPut
import Derived.Test.YtdkdjikfhclmaaaDoorWApart
import Derived.Test.YtdkdjikfhclmaaaDoorWArr
import Derived.Test.YtdkdjikfhclmaaaDoorWZeros
import Derived.Test.YtdkdjikfhclmaaaDoorWFoot
import Derived.Test.YtdkdjikfhclmaaaDoorWKept
import Derived.Test.YtdkdjikfhclmaaaDoorWShare
import Derived.Test.YtdkdjikfhclmaaaDoorWN
import Derived.Test.YtdkdjikfhclmaaaDoorWFootNe
import Derived.Test.YtdkdjikfhclmaaaDoorWAt
import Derived.Test.YtdkdjikfhclmaaaDoorWEqStruct
import Derived.Test.YtdkdjikfhclmaaaDoorWRepsOne
import Derived.Test.YtdkdjikfhclmaaaDoorWInv
import Derived.Test.YtdkdjikfhclmaaaDoorWInvWords
import Derived.Test.YtdkdjikfhclmaaaDoorWGuard
import Derived.Test.YtdkdjikfhclmaaaDoorWNEv
import Derived.Test.YtdkdjikfhclmaaaDoorWMore
namespace Go.Proofs.YtdkdjikfhclmaaaDoor.PSpanCounts
open Go.RowKit Go.Proofs.YtdkdjikfhclmaaaDoorW.PrintWords Go.Proofs.YtdkdjikfhclmaaaDoorW.PrintLast Go.Proofs.YtdkdjikfhclmaaaDoorW.PrintMore
attribute [local go_sem] max2_int min2_int max_two min_two max_three min_three max_four min_four   -- for this text's walks alone
set_option linter.unusedVariables false
set_option linter.unusedSimpArgs false



def errW : Option Int → Value
  | none => .nilIface
  | some c => .iface 44 (.int .i64 c)
theorem errW_none : errW none = .nilIface := rfl
theorem errW_some (c : Int) : errW (some c) = .iface 44 (.int .i64 c) := rfl

theorem info3 : (Tryd.prog.info? 3).map (fun i => (i.zero, i.size, i.bytes)) = some (some (.int .i64 0), 1, 8) := by kernel_rfl
-- the values' own types

end Go.Proofs.YtdkdjikfhclmaaaDoor.PSpanCounts
