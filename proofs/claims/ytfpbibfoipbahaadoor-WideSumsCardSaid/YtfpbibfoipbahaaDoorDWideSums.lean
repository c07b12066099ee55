-- Printed by a program of this session's (pwrow.py); Lean checks it.
import Derived.Test.YtfpbibfoipbahaaDoorPWideSumsx4
namespace Go.Proofs.YtfpbibfoipbahaaDoor.PWideSums
open Go.RowKit Go.Proofs.YtfpbibfoipbahaaDoorW.PrintWords Go.Proofs.YtfpbibfoipbahaaDoorW.PrintLast Go.Proofs.YtfpbibfoipbahaaDoorW.PrintMore
/-- The pure statement of arrears/arrearslaw03.WideSums. -/
def arrearslaw03_WideSums.Pure : Prop := ∀ (l0 : List Int) (a1 : Int), l0.length * 8 ≤ 140737488351232 → (∀ x ∈ l0, 0 ≤ x ∧ x ≤ 18446744073709551615) → (0 ≤ a1 ∧ a1 ≤ 18446744073709551615) → ∃ k, arrearslaw03_WideSums.f k l0 a1 = some true
end Go.Proofs.YtfpbibfoipbahaaDoor.PWideSums
