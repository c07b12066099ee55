-- Printed by a program of this session's (pwrow.py); Lean checks it.
import Derived.Test.YtbgjeelbbmcpeaaDoorPDateMonthsx5
namespace Go.Proofs.YtbgjeelbbmcpeaaDoor.PDateMonths
open Go.RowKit Go.Proofs.YtbgjeelbbmcpeaaDoorW.PrintWords Go.Proofs.YtbgjeelbbmcpeaaDoorW.PrintLast Go.Proofs.YtbgjeelbbmcpeaaDoorW.PrintMore
/-- The pure statement of arrears/arrearslaw05.DateMonths. -/
def arrearslaw05_DateMonths.Pure : Prop := ∀ (a0_0 : Int) (a0_1 : Int) (a0_2 : Int) (a1 : Int), (-9223372036854775808 ≤ a0_0 ∧ a0_0 ≤ 9223372036854775807) → (-9223372036854775808 ≤ a0_1 ∧ a0_1 ≤ 9223372036854775807) → (-9223372036854775808 ≤ a0_2 ∧ a0_2 ≤ 9223372036854775807) → (-9223372036854775808 ≤ a1 ∧ a1 ≤ 9223372036854775807) → ∃ k, arrearslaw05_DateMonths.f k a0_0 a0_1 a0_2 a1 = some true
end Go.Proofs.YtbgjeelbbmcpeaaDoor.PDateMonths
