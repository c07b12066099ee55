-- Printed by a program of this session's (pwrow.py); Lean checks it.
import Derived.Test.YtldicnmpegkicaaDoorPYieldReckonsx8
namespace Go.Proofs.YtldicnmpegkicaaDoor.PYieldReckons
open Go.RowKit Go.Proofs.YtldicnmpegkicaaDoorW.PrintWords Go.Proofs.YtldicnmpegkicaaDoorW.PrintLast Go.Proofs.YtldicnmpegkicaaDoorW.PrintMore
/-- The pure statement of arrears/arrearslaw09.YieldReckons. -/
def arrearslaw09_YieldReckons.Pure : Prop := ∀ (a0_0 : Int) (a0_1 : Int) (a1 : Int) (a2 : Int) (a3 : Int), (0 ≤ a0_0 ∧ a0_0 ≤ 4294967295) → (0 ≤ a0_1 ∧ a0_1 ≤ 255) → (-9223372036854775808 ≤ a1 ∧ a1 ≤ 9223372036854775807) → (-9223372036854775808 ≤ a2 ∧ a2 ≤ 9223372036854775807) → (0 ≤ a3 ∧ a3 ≤ 18446744073709551615) → ∃ k, arrearslaw09_YieldReckons.f k a0_0 a0_1 a1 a2 a3 = some true
end Go.Proofs.YtldicnmpegkicaaDoor.PYieldReckons
