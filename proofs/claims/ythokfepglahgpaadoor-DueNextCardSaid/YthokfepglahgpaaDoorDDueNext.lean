-- Printed by a program of this session's (pwrow.py); Lean checks it.
import Derived.Test.YthokfepglahgpaaDoorPDueNextx4
namespace Go.Proofs.YthokfepglahgpaaDoor.PDueNext
open Go.RowKit Go.Proofs.YthokfepglahgpaaDoorW.PrintWords Go.Proofs.YthokfepglahgpaaDoorW.PrintLast Go.Proofs.YthokfepglahgpaaDoorW.PrintMore
/-- The pure statement of arrears/arrearslaw07.DueNext. -/
def arrearslaw07_DueNext.Pure : Prop := ∀ (l0 : List Int) (a1 : Int), l0.length * 4 ≤ 140737488351232 → (∀ x ∈ l0, -2147483648 ≤ x ∧ x ≤ 2147483647) → (-2147483648 ≤ a1 ∧ a1 ≤ 2147483647) → ∃ k, arrearslaw07_DueNext.f k l0 a1 = some true
end Go.Proofs.YthokfepglahgpaaDoor.PDueNext
