-- Printed by a program of this session's (pwrow.py); Lean checks it.
import Derived.Test.YtldicnmpegkicaaPYieldGrowsx4
namespace Go.Proofs.Ytldicnmpegkicaa.PYieldGrows
open Go.RowKit Go.Proofs.YtldicnmpegkicaaW.PrintWords Go.Proofs.YtldicnmpegkicaaW.PrintLast Go.Proofs.YtldicnmpegkicaaW.PrintMore
/-- The pure statement of arrears/arrearslaw09.YieldGrows. -/
def arrearslaw09_YieldGrows.Pure : Prop := ∀ (a0_0 : Int) (a0_1 : Int) (a1_0 : Int) (a1_1 : Int) (a2 : Int) (a3 : Int) (a4 : Int) (a5 : Int), (0 ≤ a0_0 ∧ a0_0 ≤ 4294967295) → (0 ≤ a0_1 ∧ a0_1 ≤ 255) → (0 ≤ a1_0 ∧ a1_0 ≤ 4294967295) → (0 ≤ a1_1 ∧ a1_1 ≤ 255) → (-9223372036854775808 ≤ a2 ∧ a2 ≤ 9223372036854775807) → (-9223372036854775808 ≤ a3 ∧ a3 ≤ 9223372036854775807) → (0 ≤ a4 ∧ a4 ≤ 65535) → (0 ≤ a5 ∧ a5 ≤ 65535) → ∃ k, arrearslaw09_YieldGrows.f k a0_0 a0_1 a1_0 a1_1 a2 a3 a4 a5 = some true
end Go.Proofs.Ytldicnmpegkicaa.PYieldGrows
