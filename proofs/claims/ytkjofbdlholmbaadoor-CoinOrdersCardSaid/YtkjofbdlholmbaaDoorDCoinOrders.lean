-- Printed by a program of this session's (pwrow.py); Lean checks it.
import Derived.Test.YtkjofbdlholmbaaDoorPCoinOrdersx2
namespace Go.Proofs.YtkjofbdlholmbaaDoor.PCoinOrders
open Go.RowKit Go.Proofs.YtkjofbdlholmbaaDoorW.PrintWords Go.Proofs.YtkjofbdlholmbaaDoorW.PrintLast Go.Proofs.YtkjofbdlholmbaaDoorW.PrintMore
/-- The pure statement of arrears/arrearslaw04.CoinOrders. -/
def arrearslaw04_CoinOrders.Pure : Prop := ∀ (a0 : Int) (a1 : Int), (-9223372036854775808 ≤ a0 ∧ a0 ≤ 9223372036854775807) → (-9223372036854775808 ≤ a1 ∧ a1 ≤ 9223372036854775807) → arrearslaw04_CoinOrders.f a0 a1 = some true
end Go.Proofs.YtkjofbdlholmbaaDoor.PCoinOrders
