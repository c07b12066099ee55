-- Printed by a program of this session's (pwrow.py); Lean checks it.
import Derived.Test.YthokfepglahgpaaDoorPDueCountsx4
namespace Go.Proofs.YthokfepglahgpaaDoor.PDueCounts
open Go.RowKit Go.Proofs.YthokfepglahgpaaDoorW.PrintWords Go.Proofs.YthokfepglahgpaaDoorW.PrintLast Go.Proofs.YthokfepglahgpaaDoorW.PrintMore
/-- The pure statement of arrears/arrearslaw07.DueCounts. -/
def arrearslaw07_DueCounts.Pure : Prop := ∀ (a0 : Int) (a1 : Int) (a2 : Int), (-2147483648 ≤ a0 ∧ a0 ≤ 2147483647) → (-9223372036854775808 ≤ a1 ∧ a1 ≤ 9223372036854775807) → (-2147483648 ≤ a2 ∧ a2 ≤ 2147483647) → ∃ k, arrearslaw07_DueCounts.f k a0 a1 a2 = some true
end Go.Proofs.YthokfepglahgpaaDoor.PDueCounts
