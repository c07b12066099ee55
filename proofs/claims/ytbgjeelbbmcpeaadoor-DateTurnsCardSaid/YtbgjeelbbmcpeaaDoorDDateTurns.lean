-- Printed by a program of this session's (pwrow.py); Lean checks it.
import Derived.Test.YtbgjeelbbmcpeaaDoorPDateTurnsx6
namespace Go.Proofs.YtbgjeelbbmcpeaaDoor.PDateTurns
open Go.RowKit Go.Proofs.YtbgjeelbbmcpeaaDoorW.PrintWords Go.Proofs.YtbgjeelbbmcpeaaDoorW.PrintLast Go.Proofs.YtbgjeelbbmcpeaaDoorW.PrintMore
/-- The pure statement of arrears/arrearslaw05.DateTurns. -/
def arrearslaw05_DateTurns.Pure : Prop := ∀ (a0 : Int), (-2147483648 ≤ a0 ∧ a0 ≤ 2147483647) → ∃ k, arrearslaw05_DateTurns.f k a0 = some true
end Go.Proofs.YtbgjeelbbmcpeaaDoor.PDateTurns
