-- Printed by a program of this session's (pwrow.py); Lean checks it.
import Derived.Test.YtldicnmpegkicaaDoorPYieldDaysx11
namespace Go.Proofs.YtldicnmpegkicaaDoor.PYieldDays
open Go.RowKit Go.Proofs.YtldicnmpegkicaaDoorW.PrintWords Go.Proofs.YtldicnmpegkicaaDoorW.PrintLast Go.Proofs.YtldicnmpegkicaaDoorW.PrintMore
/-- The pure statement of arrears/arrearslaw09.YieldDays. -/
def arrearslaw09_YieldDays.Pure : Prop := ∀ (a0_0 : Int) (a0_1 : Int) (a1 : Int) (a2 : Int) (a3 : Int), (0 ≤ a0_0 ∧ a0_0 ≤ 4294967295) → (0 ≤ a0_1 ∧ a0_1 ≤ 255) → (-9223372036854775808 ≤ a1 ∧ a1 ≤ 9223372036854775807) → (-2147483648 ≤ a2 ∧ a2 ≤ 2147483647) → (0 ≤ a3 ∧ a3 ≤ 18446744073709551615) → ∃ k, arrearslaw09_YieldDays.f k a0_0 a0_1 a1 a2 a3 = some true
end Go.Proofs.YtldicnmpegkicaaDoor.PYieldDays
