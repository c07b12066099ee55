-- Printed by a program of this session's (pwrow.py); Lean checks it.
import Derived.Test.YtbncddmmngcdkaaDoorPSplitPaysx5
namespace Go.Proofs.YtbncddmmngcdkaaDoor.PSplitPays
open Go.RowKit Go.Proofs.YtbncddmmngcdkaaDoorW.PrintWords Go.Proofs.YtbncddmmngcdkaaDoorW.PrintLast Go.Proofs.YtbncddmmngcdkaaDoorW.PrintMore
/-- The pure statement of arrears/arrearslaw11.SplitPays. -/
def arrearslaw11_SplitPays.Pure : Prop := ∀ (a0_0 : Int) (a0_1 : Int) (a0_2 : Int) (a1 : Int) (a2 : Int), (-9223372036854775808 ≤ a0_0 ∧ a0_0 ≤ 9223372036854775807) → (-9223372036854775808 ≤ a0_1 ∧ a0_1 ≤ 9223372036854775807) → (-9223372036854775808 ≤ a0_2 ∧ a0_2 ≤ 9223372036854775807) → (0 ≤ a1 ∧ a1 ≤ 255) → (-9223372036854775808 ≤ a2 ∧ a2 ≤ 9223372036854775807) → ∃ k, arrearslaw11_SplitPays.f k a0_0 a0_1 a0_2 a1 a2 = some true
end Go.Proofs.YtbncddmmngcdkaaDoor.PSplitPays
