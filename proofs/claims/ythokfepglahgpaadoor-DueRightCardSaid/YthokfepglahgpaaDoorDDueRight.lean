-- Printed by a program of this session's (pwrow.py); Lean checks it.
import Derived.Test.YthokfepglahgpaaDoorPDueRightx4
namespace Go.Proofs.YthokfepglahgpaaDoor.PDueRight
open Go.RowKit Go.Proofs.YthokfepglahgpaaDoorW.PrintWords Go.Proofs.YthokfepglahgpaaDoorW.PrintLast Go.Proofs.YthokfepglahgpaaDoorW.PrintMore
/-- The pure statement of arrears/arrearslaw07.DueRight. -/
def arrearslaw07_DueRight.Pure : Prop := ∀ (l0 : List Int) (a1 : Bool), l0.length * 4 ≤ 140737488351232 → (∀ x ∈ l0, -2147483648 ≤ x ∧ x ≤ 2147483647) → ∃ k, arrearslaw07_DueRight.f k l0 a1 = some true
end Go.Proofs.YthokfepglahgpaaDoor.PDueRight
