-- Printed by a program of this session's (pwrow.py); Lean checks it.
import Derived.Test.YtdojgjbiilnjpaaPQuillLaysx2
namespace Go.Proofs.Ytdojgjbiilnjpaa.PQuillLays
open Go.RowKit Go.Proofs.YtdojgjbiilnjpaaW.PrintWords Go.Proofs.YtdojgjbiilnjpaaW.PrintLast Go.Proofs.YtdojgjbiilnjpaaW.PrintMore
/-- The pure statement of arrears/arrearslaw08.QuillLays. -/
def arrearslaw08_QuillLays.Pure : Prop := ∀ (l0 : List (S40)), l0.length * 48 ≤ 140737488351232 → (∀ x ∈ l0, (0 ≤ x.f0 ∧ x.f0 ≤ 255) ∧ (0 ≤ x.f1 ∧ x.f1 ≤ 18446744073709551615) ∧ (-9223372036854775808 ≤ x.f2 ∧ x.f2 ≤ 9223372036854775807) ∧ (x.f3.size ≤ 9223372036854775807) ∧ (0 ≤ x.f4 ∧ x.f4 ≤ 18446744073709551615)) → ∃ k, arrearslaw08_QuillLays.f k l0 = some true
end Go.Proofs.Ytdojgjbiilnjpaa.PQuillLays
