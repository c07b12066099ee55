-- Printed by a program of this session's (pwrow.py); Lean checks it.
import Derived.Test.YtfpbibfoipbahaaPWideOrdersx3
namespace Go.Proofs.Ytfpbibfoipbahaa.PWideOrders
open Go.RowKit Go.Proofs.YtfpbibfoipbahaaW.PrintWords Go.Proofs.YtfpbibfoipbahaaW.PrintLast Go.Proofs.YtfpbibfoipbahaaW.PrintMore
/-- The pure statement of arrears/arrearslaw03.WideOrders. -/
def arrearslaw03_WideOrders.Pure : Prop := ∀ (a0 : Int) (a1 : Int) (a2 : Int), (0 ≤ a0 ∧ a0 ≤ 18446744073709551615) → (0 ≤ a1 ∧ a1 ≤ 18446744073709551615) → (0 ≤ a2 ∧ a2 ≤ 18446744073709551615) → ∃ k, arrearslaw03_WideOrders.f k a0 a1 a2 = some true
end Go.Proofs.Ytfpbibfoipbahaa.PWideOrders
