-- Printed by a program of this session's (pwrow.py); Lean checks it.
import Derived.Test.YtoclgoknednjgaaDoorPLevelPaysx6
namespace Go.Proofs.YtoclgoknednjgaaDoor.PLevelPays
open Go.RowKit Go.Proofs.YtoclgoknednjgaaDoorW.PrintWords Go.Proofs.YtoclgoknednjgaaDoorW.PrintLast Go.Proofs.YtoclgoknednjgaaDoorW.PrintMore
/-- The pure statement of arrears/arrearslaw10.LevelPays. -/
def arrearslaw10_LevelPays.Pure : Prop := ∀ (a0 : Int) (a1_0 : Int) (a1_1 : Int) (a2 : Int), (-9223372036854775808 ≤ a0 ∧ a0 ≤ 9223372036854775807) → (0 ≤ a1_0 ∧ a1_0 ≤ 4294967295) → (0 ≤ a1_1 ∧ a1_1 ≤ 255) → (-9223372036854775808 ≤ a2 ∧ a2 ≤ 9223372036854775807) → ∃ k, arrearslaw10_LevelPays.f k a0 a1_0 a1_1 a2 = some true
end Go.Proofs.YtoclgoknednjgaaDoor.PLevelPays
