-- Printed by a program of this session's (pwrow.py); Lean checks it.
import Derived.Test.YtoclgoknednjgaaPLevelNamesx5
namespace Go.Proofs.Ytoclgoknednjgaa.PLevelNames
open Go.RowKit Go.Proofs.YtoclgoknednjgaaW.PrintWords Go.Proofs.YtoclgoknednjgaaW.PrintLast Go.Proofs.YtoclgoknednjgaaW.PrintMore
/-- The pure statement of arrears/arrearslaw10.LevelNames. -/
def arrearslaw10_LevelNames.Pure : Prop := ∀ (a0 : Int) (a1 : ByteArray), (0 ≤ a0 ∧ a0 ≤ 255) → a1.size ≤ 140737488351232 → ∃ k, arrearslaw10_LevelNames.f k a0 a1 = some true
end Go.Proofs.Ytoclgoknednjgaa.PLevelNames
