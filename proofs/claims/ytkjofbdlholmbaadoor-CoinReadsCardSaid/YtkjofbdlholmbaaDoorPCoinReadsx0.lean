-- Printed by a wrapper of this session's round the kit's print.py; Lean checks it.
import Derived.Test.YtkjofbdlholmbaaDoorProg
import Derived.Below
import Derived.Deep.Draws
import Derived.Deep.AppendLies
import Derived.Maps.AppendAt
import Derived.OwnWalk
import Derived.Laws.BytesArg
import Derived.Laws.MakeOwn
import Derived.Laws.OwnMore
import Derived.Deep.OwnRows
import Derived.Tactics
import Derived.Lib.ConvBytes
import Derived.Laws.Slices
import Derived.WalkKit
import Derived.KernelRfl
import Derived.RowKit3
import Derived.Deep.LoopGhost
import Derived.Deep.QuietTactic
import Derived.BigQuiet
import Derived.WideLaws
import Derived.Deep.DeepCutAuto
import Derived.Deep.CutBlock
import Derived.Deep.RegionHeld3
import Derived.Laws.Rows
import Derived.Lib.AppendStr
import Derived.ArgAppend
import Derived.Laws.IdiomCopy
import Derived.OrdersHeld
import Derived.Laws.BitsLemmas
import Derived.RowKit
import Derived.Test.YtkjofbdlholmbaaDoorMlaidCoinReads
import Derived.Lib.ItoaNum
import Derived.Test.YtkjofbdlholmbaaDoorMshelf
import Derived.Lib.Walk
import Derived.Lib.ItoaMem
import Derived.BigCall
import Derived.BigGuard
import Derived.Lib.Strings
import Derived.LoopN
import Derived.Lib.IndexMore
import Derived.LaidEql
import Derived.Stop.Asserts
import Derived.RowKitTokens
import Derived.Test.YtkjofbdlholmbaaDoorMascode2
import Derived.Test.YtkjofbdlholmbaaDoorWWords
import Derived.Test.YtkjofbdlholmbaaDoorWLast
import Derived.Test.YtkjofbdlholmbaaDoorWTab
import Derived.Test.YtkjofbdlholmbaaDoorWFour
import Derived.Test.YtkjofbdlholmbaaDoorWQPut
import Derived.Test.YtkjofbdlholmbaaDoorWApart
import Derived.Test.YtkjofbdlholmbaaDoorWArr
import Derived.Test.YtkjofbdlholmbaaDoorWZeros
import Derived.Test.YtkjofbdlholmbaaDoorWFoot
import Derived.Test.YtkjofbdlholmbaaDoorWKept
import Derived.Test.YtkjofbdlholmbaaDoorWShare
import Derived.Test.YtkjofbdlholmbaaDoorWN
import Derived.Test.YtkjofbdlholmbaaDoorWFootNe
import Derived.Test.YtkjofbdlholmbaaDoorWAt
import Derived.Test.YtkjofbdlholmbaaDoorWEqStruct
import Derived.Test.YtkjofbdlholmbaaDoorWRepsOne
import Derived.Test.YtkjofbdlholmbaaDoorWInv
import Derived.Test.YtkjofbdlholmbaaDoorWInvWords
import Derived.Test.YtkjofbdlholmbaaDoorWGuard
import Derived.Test.YtkjofbdlholmbaaDoorWNEv
import Derived.Test.YtkjofbdlholmbaaDoorWMore
namespace Go.Proofs.YtkjofbdlholmbaaDoor.PCoinReads
open Go.RowKit Go.Proofs.YtkjofbdlholmbaaDoorW.PrintWords Go.Proofs.YtkjofbdlholmbaaDoorW.PrintLast Go.Proofs.YtkjofbdlholmbaaDoorW.PrintMore
attribute [local go_sem] max2_int min2_int max_two min_two max_three min_three max_four min_four   -- for this text's walks alone
set_option linter.unusedVariables false
set_option linter.unusedSimpArgs false



def errW : Option Int → Value
  | none => .nilIface
  | some c => .iface 37 (.int .i64 c)
theorem errW_none : errW none = .nilIface := rfl
theorem errW_some (c : Int) : errW (some c) = .iface 37 (.int .i64 c) := rfl

theorem info5 : (Tryd.prog.info? 5).map (fun i => (i.zero, i.size, i.bytes)) = some (some (.int .u8 0), 1, 1) := by kernel_rfl
-- the values' own types

end Go.Proofs.YtkjofbdlholmbaaDoor.PCoinReads
