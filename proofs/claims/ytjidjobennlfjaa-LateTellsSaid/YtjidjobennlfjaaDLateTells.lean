-- Printed by a program of this session's (pwrow.py); Lean checks it.
import Derived.Test.YtjidjobennlfjaaPLateTellsx2
namespace Go.Proofs.Ytjidjobennlfjaa.PLateTells
open Go.RowKit Go.Proofs.YtjidjobennlfjaaW.PrintWords Go.Proofs.YtjidjobennlfjaaW.PrintLast Go.Proofs.YtjidjobennlfjaaW.PrintMore
/-- The pure statement of arrears/arrearslaw12.LateTells. -/
def arrearslaw12_LateTells.Pure : Prop := ∀ (l0 : List (S32)) (a1 : Int) (a2 : Int), l0.length * 16 ≤ 140737488351232 → (∀ x ∈ l0, (-2147483648 ≤ x.f0 ∧ x.f0 ≤ 2147483647) ∧ (-9223372036854775808 ≤ x.f1 ∧ x.f1 ≤ 9223372036854775807)) → (-9223372036854775808 ≤ a1 ∧ a1 ≤ 9223372036854775807) → (-2147483648 ≤ a2 ∧ a2 ≤ 2147483647) → ∃ k, arrearslaw12_LateTells.f k l0 a1 a2 = some true
end Go.Proofs.Ytjidjobennlfjaa.PLateTells
