-- Printed by a program of this session's (pwrow.py); Lean checks it.
import Derived.Test.YtfpbibfoipbahaaDoorPWideReckonsx6
namespace Go.Proofs.YtfpbibfoipbahaaDoor.PWideReckons
open Go.RowKit Go.Proofs.YtfpbibfoipbahaaDoorW.PrintWords Go.Proofs.YtfpbibfoipbahaaDoorW.PrintLast Go.Proofs.YtfpbibfoipbahaaDoorW.PrintMore
/-- The pure statement of arrears/arrearslaw03.WideReckons. -/
def arrearslaw03_WideReckons.Pure : Prop := ∀ (a0 : Int) (a1 : Int) (a2 : Int) (a3 : Int) (a4 : Int), (0 ≤ a0 ∧ a0 ≤ 18446744073709551615) → (0 ≤ a1 ∧ a1 ≤ 18446744073709551615) → (0 ≤ a2 ∧ a2 ≤ 18446744073709551615) → (0 ≤ a3 ∧ a3 ≤ 18446744073709551615) → (0 ≤ a4 ∧ a4 ≤ 18446744073709551615) → ∃ k, arrearslaw03_WideReckons.f k a0 a1 a2 a3 a4 = some true
end Go.Proofs.YtfpbibfoipbahaaDoor.PWideReckons
