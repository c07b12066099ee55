-- Printed by a program of this session's (pwrow.py); Lean checks it.
import Derived.Test.YtjidjobennlfjaaPLateGoesx1
namespace Go.Proofs.Ytjidjobennlfjaa.PLateGoes
open Go.RowKit Go.Proofs.YtjidjobennlfjaaW.PrintWords Go.Proofs.YtjidjobennlfjaaW.PrintLast Go.Proofs.YtjidjobennlfjaaW.PrintMore
/-- The pure statement of arrears/arrearslaw12.LateGoes. -/
def arrearslaw12_LateGoes.Pure : Prop := ∀ (l0 : List (S32)) (a1 : Int) (a2 : Int) (a3 : Int), l0.length * 16 ≤ 140737488351232 → (∀ x ∈ l0, (-2147483648 ≤ x.f0 ∧ x.f0 ≤ 2147483647) ∧ (-9223372036854775808 ≤ x.f1 ∧ x.f1 ≤ 9223372036854775807)) → (0 ≤ a1 ∧ a1 ≤ 4294967295) → (0 ≤ a2 ∧ a2 ≤ 4294967295) → (-2147483648 ≤ a3 ∧ a3 ≤ 2147483647) → ∃ k, arrearslaw12_LateGoes.f k l0 a1 a2 a3 = some true
end Go.Proofs.Ytjidjobennlfjaa.PLateGoes
