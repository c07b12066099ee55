-- Printed by a program of this session's (pwrow.py); Lean checks it.
import Derived.Test.YtoclgoknednjgaaDoorPLevelRowsx8
namespace Go.Proofs.YtoclgoknednjgaaDoor.PLevelRows
open Go.RowKit Go.Proofs.YtoclgoknednjgaaDoorW.PrintWords Go.Proofs.YtoclgoknednjgaaDoorW.PrintLast Go.Proofs.YtoclgoknednjgaaDoorW.PrintMore
/-- The pure statement of arrears/arrearslaw10.LevelRows. -/
def arrearslaw10_LevelRows.Pure : Prop := ∀ (a0 : Int) (a1 : Int) (a2_0 : Int) (a2_1 : Int) (a3 : Int), (0 ≤ a0 ∧ a0 ≤ 255) → (-9223372036854775808 ≤ a1 ∧ a1 ≤ 9223372036854775807) → (0 ≤ a2_0 ∧ a2_0 ≤ 4294967295) → (0 ≤ a2_1 ∧ a2_1 ≤ 255) → (-9223372036854775808 ≤ a3 ∧ a3 ≤ 9223372036854775807) → ∃ k, arrearslaw10_LevelRows.f k a0 a1 a2_0 a2_1 a3 = some true
end Go.Proofs.YtoclgoknednjgaaDoor.PLevelRows
