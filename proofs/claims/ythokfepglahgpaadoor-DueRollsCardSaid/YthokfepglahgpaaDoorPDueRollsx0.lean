-- Printed by a wrapper of this session's round the kit's print.py; Lean checks it.
import Derived.Test.YthokfepglahgpaaDoorProg
import Derived.Below
import Derived.Deep.Draws
import Derived.Deep.AppendLies
import Derived.Maps.AppendAt
import Derived.OwnWalk
import Derived.Laws.BytesArg
import Derived.Laws.MakeOwn
import Derived.Laws.OwnMore
import Derived.Deep.OwnRows
import Derived.Tactics
import Derived.Lib.ConvBytes
import Derived.Laws.Slices
import Derived.WalkKit
import Derived.KernelRfl
import Derived.RowKit3
import Derived.Deep.LoopGhost
import Derived.Deep.QuietTactic
import Derived.BigQuiet
import Derived.WideLaws
import Derived.Deep.DeepCutAuto
import Derived.Deep.CutBlock
import Derived.Deep.RegionHeld3
import Derived.Laws.Rows
import Derived.Lib.AppendStr
import Derived.ArgAppend
import Derived.Laws.IdiomCopy
import Derived.OrdersHeld
import Derived.Laws.BitsLemmas
import Derived.RowKit
import Derived.Test.YthokfepglahgpaaDoorMlaidDueRolls
import Derived.Lib.ItoaNum
import Derived.Test.YthokfepglahgpaaDoorMshelf
import Derived.LoopN
import Derived.Lib.SmallJoins
import Derived.Test.YthokfepglahgpaaDoorMascode2
import Derived.Test.YthokfepglahgpaaDoorWWords
import Derived.Test.YthokfepglahgpaaDoorWLast
import Derived.Test.YthokfepglahgpaaDoorWTab
import Derived.Test.YthokfepglahgpaaDoorWFour
import Derived.Test.YthokfepglahgpaaDoorWQPut
import Derived.Test.YthokfepglahgpaaDoorWApart
import Derived.Test.YthokfepglahgpaaDoorWArr
import Derived.Test.YthokfepglahgpaaDoorWZeros
import Derived.Test.YthokfepglahgpaaDoorWFoot
import Derived.Test.YthokfepglahgpaaDoorWKept
import Derived.Test.YthokfepglahgpaaDoorWShare
import Derived.Test.YthokfepglahgpaaDoorWN
import Derived.Test.YthokfepglahgpaaDoorWFootNe
import Derived.Test.YthokfepglahgpaaDoorWAt
import Derived.Test.YthokfepglahgpaaDoorWEqStruct
import Derived.Test.YthokfepglahgpaaDoorWRepsOne
import Derived.Test.YthokfepglahgpaaDoorWInv
import Derived.Test.YthokfepglahgpaaDoorWInvWords
import Derived.Test.YthokfepglahgpaaDoorWGuard
import Derived.Test.YthokfepglahgpaaDoorWNEv
import Derived.Test.YthokfepglahgpaaDoorWMore
namespace Go.Proofs.YthokfepglahgpaaDoor.PDueRolls
open Go.RowKit Go.Proofs.YthokfepglahgpaaDoorW.PrintWords Go.Proofs.YthokfepglahgpaaDoorW.PrintLast Go.Proofs.YthokfepglahgpaaDoorW.PrintMore
attribute [local go_sem] max2_int min2_int max_two min_two max_three min_three max_four min_four   -- for this text's walks alone
set_option linter.unusedVariables false
set_option linter.unusedSimpArgs false



def errW : Option Int → Value
  | none => .nilIface
  | some c => .iface 45 (.int .i64 c)
theorem errW_none : errW none = .nilIface := rfl
theorem errW_some (c : Int) : errW (some c) = .iface 45 (.int .i64 c) := rfl

theorem info3 : (Tryd.prog.info? 3).map (fun i => (i.zero, i.size, i.bytes)) = some (some (.int .i64 0), 1, 8) := by kernel_rfl
theorem info22 : (Tryd.prog.info? 22).map (fun i => (i.zero, i.size, i.bytes)) = some (some (.int .i32 0), 1, 4) := by kernel_rfl
-- the values' own types

end Go.Proofs.YthokfepglahgpaaDoor.PDueRolls
