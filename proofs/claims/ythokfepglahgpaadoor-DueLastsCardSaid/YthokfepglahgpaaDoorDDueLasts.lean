-- Printed by a program of this session's (pwrow.py); Lean checks it.
import Derived.Test.YthokfepglahgpaaDoorPDueLastsx4
namespace Go.Proofs.YthokfepglahgpaaDoor.PDueLasts
open Go.RowKit Go.Proofs.YthokfepglahgpaaDoorW.PrintWords Go.Proofs.YthokfepglahgpaaDoorW.PrintLast Go.Proofs.YthokfepglahgpaaDoorW.PrintMore
/-- The pure statement of arrears/arrearslaw07.DueLasts. -/
def arrearslaw07_DueLasts.Pure : Prop := ∀ (a0 : Int) (a1 : Int), (-2147483648 ≤ a0 ∧ a0 ≤ 2147483647) → (0 ≤ a1 ∧ a1 ≤ 65535) → ∃ k, arrearslaw07_DueLasts.f k a0 a1 = some true
end Go.Proofs.YthokfepglahgpaaDoor.PDueLasts
