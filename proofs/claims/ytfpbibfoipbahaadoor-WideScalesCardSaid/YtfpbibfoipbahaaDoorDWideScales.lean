-- Printed by a program of this session's (pwrow.py); Lean checks it.
import Derived.Test.YtfpbibfoipbahaaDoorPWideScalesx4
namespace Go.Proofs.YtfpbibfoipbahaaDoor.PWideScales
open Go.RowKit Go.Proofs.YtfpbibfoipbahaaDoorW.PrintWords Go.Proofs.YtfpbibfoipbahaaDoorW.PrintLast Go.Proofs.YtfpbibfoipbahaaDoorW.PrintMore
/-- The pure statement of arrears/arrearslaw03.WideScales. -/
def arrearslaw03_WideScales.Pure : Prop := ∀ (a0 : Int) (a1 : Int) (a2 : Int), (0 ≤ a0 ∧ a0 ≤ 18446744073709551615) → (0 ≤ a1 ∧ a1 ≤ 18446744073709551615) → (0 ≤ a2 ∧ a2 ≤ 18446744073709551615) → ∃ k, arrearslaw03_WideScales.f k a0 a1 a2 = some true
end Go.Proofs.YtfpbibfoipbahaaDoor.PWideScales
