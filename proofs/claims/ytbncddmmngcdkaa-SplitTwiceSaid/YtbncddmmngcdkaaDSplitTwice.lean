-- Printed by a program of this session's (pwrow.py); Lean checks it.
import Derived.Test.YtbncddmmngcdkaaPSplitTwicex3
namespace Go.Proofs.Ytbncddmmngcdkaa.PSplitTwice
open Go.RowKit Go.Proofs.YtbncddmmngcdkaaW.PrintWords Go.Proofs.YtbncddmmngcdkaaW.PrintLast Go.Proofs.YtbncddmmngcdkaaW.PrintMore
/-- The pure statement of arrears/arrearslaw11.SplitTwice. -/
def arrearslaw11_SplitTwice.Pure : Prop := ∀ (a0_0 : Int) (a0_1 : Int) (a0_2 : Int) (a1 : Int) (a2 : Int), (-9223372036854775808 ≤ a0_0 ∧ a0_0 ≤ 9223372036854775807) → (-9223372036854775808 ≤ a0_1 ∧ a0_1 ≤ 9223372036854775807) → (-9223372036854775808 ≤ a0_2 ∧ a0_2 ≤ 9223372036854775807) → (0 ≤ a1 ∧ a1 ≤ 4294967295) → (0 ≤ a2 ∧ a2 ≤ 4294967295) → ∃ k, arrearslaw11_SplitTwice.f k a0_0 a0_1 a0_2 a1 a2 = some true
end Go.Proofs.Ytbncddmmngcdkaa.PSplitTwice
