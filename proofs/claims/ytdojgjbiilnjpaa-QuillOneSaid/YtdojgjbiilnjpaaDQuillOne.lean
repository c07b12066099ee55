-- Printed by a program of this session's (pwrow.py); Lean checks it.
import Derived.Test.YtdojgjbiilnjpaaPQuillOnex1
namespace Go.Proofs.Ytdojgjbiilnjpaa.PQuillOne
open Go.RowKit Go.Proofs.YtdojgjbiilnjpaaW.PrintWords Go.Proofs.YtdojgjbiilnjpaaW.PrintLast Go.Proofs.YtdojgjbiilnjpaaW.PrintMore
/-- The pure statement of arrears/arrearslaw08.QuillOne. -/
def arrearslaw08_QuillOne.Pure : Prop := ∀ (l0 : List Int) (l1 : List (S40)), l0.length * 1 ≤ 140737488351232 → (∀ x ∈ l0, 0 ≤ x ∧ x ≤ 255) → l1.length * 48 ≤ 140737488351232 → (∀ x ∈ l1, (0 ≤ x.f0 ∧ x.f0 ≤ 255) ∧ (0 ≤ x.f1 ∧ x.f1 ≤ 18446744073709551615) ∧ (-9223372036854775808 ≤ x.f2 ∧ x.f2 ≤ 9223372036854775807) ∧ (x.f3.size ≤ 9223372036854775807) ∧ (0 ≤ x.f4 ∧ x.f4 ≤ 18446744073709551615)) → ∃ k, arrearslaw08_QuillOne.f k l0 l1 = some true
end Go.Proofs.Ytdojgjbiilnjpaa.PQuillOne
