-- Printed by a program of this session's (pwrow.py); Lean checks it.
import Derived.Test.YtbgjeelbbmcpeaaDoorPDateBacksx5
namespace Go.Proofs.YtbgjeelbbmcpeaaDoor.PDateBacks
open Go.RowKit Go.Proofs.YtbgjeelbbmcpeaaDoorW.PrintWords Go.Proofs.YtbgjeelbbmcpeaaDoorW.PrintLast Go.Proofs.YtbgjeelbbmcpeaaDoorW.PrintMore
/-- The pure statement of arrears/arrearslaw05.DateBacks. -/
def arrearslaw05_DateBacks.Pure : Prop := ∀ (a0_0 : Int) (a0_1 : Int) (a0_2 : Int), (-9223372036854775808 ≤ a0_0 ∧ a0_0 ≤ 9223372036854775807) → (-9223372036854775808 ≤ a0_1 ∧ a0_1 ≤ 9223372036854775807) → (-9223372036854775808 ≤ a0_2 ∧ a0_2 ≤ 9223372036854775807) → ∃ k, arrearslaw05_DateBacks.f k a0_0 a0_1 a0_2 = some true
end Go.Proofs.YtbgjeelbbmcpeaaDoor.PDateBacks
