-- Printed by a program of this session's (pwrow.py); Lean checks it.
import Derived.Test.YtoclgoknednjgaaPLevelOrdersx5
namespace Go.Proofs.Ytoclgoknednjgaa.PLevelOrders
open Go.RowKit Go.Proofs.YtoclgoknednjgaaW.PrintWords Go.Proofs.YtoclgoknednjgaaW.PrintLast Go.Proofs.YtoclgoknednjgaaW.PrintMore
/-- The pure statement of arrears/arrearslaw10.LevelOrders. -/
def arrearslaw10_LevelOrders.Pure : Prop := ∀ (a0 : Int) (a1 : Int) (a2_0 : Int) (a2_1 : Int) (a3 : Int) (a4 : Int), (-9223372036854775808 ≤ a0 ∧ a0 ≤ 9223372036854775807) → (-9223372036854775808 ≤ a1 ∧ a1 ≤ 9223372036854775807) → (0 ≤ a2_0 ∧ a2_0 ≤ 4294967295) → (0 ≤ a2_1 ∧ a2_1 ≤ 255) → (-9223372036854775808 ≤ a3 ∧ a3 ≤ 9223372036854775807) → (-9223372036854775808 ≤ a4 ∧ a4 ≤ 9223372036854775807) → ∃ k, arrearslaw10_LevelOrders.f k a0 a1 a2_0 a2_1 a3 a4 = some true
end Go.Proofs.Ytoclgoknednjgaa.PLevelOrders
