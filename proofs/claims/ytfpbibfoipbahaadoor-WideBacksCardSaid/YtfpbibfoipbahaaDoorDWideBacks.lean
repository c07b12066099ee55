-- Printed by a program of this session's (pwrow.py); Lean checks it.
import Derived.Test.YtfpbibfoipbahaaDoorPWideBacksx4
namespace Go.Proofs.YtfpbibfoipbahaaDoor.PWideBacks
open Go.RowKit Go.Proofs.YtfpbibfoipbahaaDoorW.PrintWords Go.Proofs.YtfpbibfoipbahaaDoorW.PrintLast Go.Proofs.YtfpbibfoipbahaaDoorW.PrintMore
/-- The pure statement of arrears/arrearslaw03.WideBacks. -/
def arrearslaw03_WideBacks.Pure : Prop := ∀ (a0 : Int) (a1 : Int) (a2 : Int), (0 ≤ a0 ∧ a0 ≤ 18446744073709551615) → (0 ≤ a1 ∧ a1 ≤ 18446744073709551615) → (0 ≤ a2 ∧ a2 ≤ 18446744073709551615) → ∃ k, arrearslaw03_WideBacks.f k a0 a1 a2 = some true
end Go.Proofs.YtfpbibfoipbahaaDoor.PWideBacks
