-- Printed by a program of this session's (pwrow.py); Lean checks it.
import Derived.Test.YthokfepglahgpaaDoorPDueRollsx7
namespace Go.Proofs.YthokfepglahgpaaDoor.PDueRolls
open Go.RowKit Go.Proofs.YthokfepglahgpaaDoorW.PrintWords Go.Proofs.YthokfepglahgpaaDoorW.PrintLast Go.Proofs.YthokfepglahgpaaDoorW.PrintMore
/-- The pure statement of arrears/arrearslaw07.DueRolls. -/
def arrearslaw07_DueRolls.Pure : Prop := ∀ (l0 : List Int) (a1 : Int) (a2 : Int), l0.length * 4 ≤ 140737488351232 → (∀ x ∈ l0, -2147483648 ≤ x ∧ x ≤ 2147483647) → (-2147483648 ≤ a1 ∧ a1 ≤ 2147483647) → (-9223372036854775808 ≤ a2 ∧ a2 ≤ 9223372036854775807) → ∃ k, arrearslaw07_DueRolls.f k l0 a1 a2 = some true
end Go.Proofs.YthokfepglahgpaaDoor.PDueRolls
