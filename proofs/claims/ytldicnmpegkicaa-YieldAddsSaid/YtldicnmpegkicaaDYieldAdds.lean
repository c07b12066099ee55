-- Printed by a program of this session's (pwrow.py); Lean checks it.
import Derived.Test.YtldicnmpegkicaaPYieldAddsx4
namespace Go.Proofs.Ytldicnmpegkicaa.PYieldAdds
open Go.RowKit Go.Proofs.YtldicnmpegkicaaW.PrintWords Go.Proofs.YtldicnmpegkicaaW.PrintLast Go.Proofs.YtldicnmpegkicaaW.PrintMore
/-- The pure statement of arrears/arrearslaw09.YieldAdds. -/
def arrearslaw09_YieldAdds.Pure : Prop := ∀ (a0_0 : Int) (a0_1 : Int) (a1 : Int) (l2 : List Int) (a3 : Int), (0 ≤ a0_0 ∧ a0_0 ≤ 4294967295) → (0 ≤ a0_1 ∧ a0_1 ≤ 255) → (-9223372036854775808 ≤ a1 ∧ a1 ≤ 9223372036854775807) → l2.length * 2 ≤ 140737488351232 → (∀ x ∈ l2, 0 ≤ x ∧ x ≤ 65535) → (0 ≤ a3 ∧ a3 ≤ 18446744073709551615) → ∃ k, arrearslaw09_YieldAdds.f k a0_0 a0_1 a1 l2 a3 = some true
end Go.Proofs.Ytldicnmpegkicaa.PYieldAdds
