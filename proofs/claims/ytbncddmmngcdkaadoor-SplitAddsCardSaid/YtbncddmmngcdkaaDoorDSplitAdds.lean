-- Printed by a program of this session's (pwrow.py); Lean checks it.
import Derived.Test.YtbncddmmngcdkaaDoorPSplitAddsx3
namespace Go.Proofs.YtbncddmmngcdkaaDoor.PSplitAdds
open Go.RowKit Go.Proofs.YtbncddmmngcdkaaDoorW.PrintWords Go.Proofs.YtbncddmmngcdkaaDoorW.PrintLast Go.Proofs.YtbncddmmngcdkaaDoorW.PrintMore
/-- The pure statement of arrears/arrearslaw11.SplitAdds. -/
def arrearslaw11_SplitAdds.Pure : Prop := ∀ (a0_0 : Int) (a0_1 : Int) (a0_2 : Int) (a1 : Int), (-9223372036854775808 ≤ a0_0 ∧ a0_0 ≤ 9223372036854775807) → (-9223372036854775808 ≤ a0_1 ∧ a0_1 ≤ 9223372036854775807) → (-9223372036854775808 ≤ a0_2 ∧ a0_2 ≤ 9223372036854775807) → (-9223372036854775808 ≤ a1 ∧ a1 ≤ 9223372036854775807) → ∃ k, arrearslaw11_SplitAdds.f k a0_0 a0_1 a0_2 a1 = some true
end Go.Proofs.YtbncddmmngcdkaaDoor.PSplitAdds
