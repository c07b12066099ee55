-- Printed by a program of this session's (pwrow.py); Lean checks it.
import Derived.Test.YtjidjobennlfjaaPLateOwesx2
namespace Go.Proofs.Ytjidjobennlfjaa.PLateOwes
open Go.RowKit Go.Proofs.YtjidjobennlfjaaW.PrintWords Go.Proofs.YtjidjobennlfjaaW.PrintLast Go.Proofs.YtjidjobennlfjaaW.PrintMore
/-- The pure statement of arrears/arrearslaw12.LateOwes. -/
def arrearslaw12_LateOwes.Pure : Prop := ∀ (l0 : List (S32)) (a1 : Int) (a2 : Int) (a3 : Int), l0.length * 16 ≤ 140737488351232 → (∀ x ∈ l0, (-2147483648 ≤ x.f0 ∧ x.f0 ≤ 2147483647) ∧ (-9223372036854775808 ≤ x.f1 ∧ x.f1 ≤ 9223372036854775807)) → (-9223372036854775808 ≤ a1 ∧ a1 ≤ 9223372036854775807) → (-9223372036854775808 ≤ a2 ∧ a2 ≤ 9223372036854775807) → (-2147483648 ≤ a3 ∧ a3 ≤ 2147483647) → ∃ k, arrearslaw12_LateOwes.f k l0 a1 a2 a3 = some true
end Go.Proofs.Ytjidjobennlfjaa.PLateOwes
