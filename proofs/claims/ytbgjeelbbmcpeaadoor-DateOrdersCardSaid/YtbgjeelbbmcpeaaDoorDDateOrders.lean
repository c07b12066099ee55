-- Printed by a program of this session's (pwrow.py); Lean checks it.
import Derived.Test.YtbgjeelbbmcpeaaDoorPDateOrdersx4
namespace Go.Proofs.YtbgjeelbbmcpeaaDoor.PDateOrders
open Go.RowKit Go.Proofs.YtbgjeelbbmcpeaaDoorW.PrintWords Go.Proofs.YtbgjeelbbmcpeaaDoorW.PrintLast Go.Proofs.YtbgjeelbbmcpeaaDoorW.PrintMore
/-- The pure statement of arrears/arrearslaw05.DateOrders. -/
def arrearslaw05_DateOrders.Pure : Prop := ∀ (a0 : Int) (a1 : Int), (-2147483648 ≤ a0 ∧ a0 ≤ 2147483647) → (-2147483648 ≤ a1 ∧ a1 ≤ 2147483647) → ∃ k, arrearslaw05_DateOrders.f k a0 a1 = some true
end Go.Proofs.YtbgjeelbbmcpeaaDoor.PDateOrders
