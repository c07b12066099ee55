-- Printed by a program of this session's (pwrow.py); Lean checks it.
import Derived.Test.YtdojgjbiilnjpaaPQuillPartsx1
namespace Go.Proofs.Ytdojgjbiilnjpaa.PQuillParts
open Go.RowKit Go.Proofs.YtdojgjbiilnjpaaW.PrintWords Go.Proofs.YtdojgjbiilnjpaaW.PrintLast Go.Proofs.YtdojgjbiilnjpaaW.PrintMore
/-- The pure statement of arrears/arrearslaw08.QuillParts. -/
def arrearslaw08_QuillParts.Pure : Prop := ∀ (l0 : List (S40)) (l1 : List (S40)) (a2 : ByteArray) (a3 : ByteArray), l0.length * 48 ≤ 140737488351232 → (∀ x ∈ l0, (0 ≤ x.f0 ∧ x.f0 ≤ 255) ∧ (0 ≤ x.f1 ∧ x.f1 ≤ 18446744073709551615) ∧ (-9223372036854775808 ≤ x.f2 ∧ x.f2 ≤ 9223372036854775807) ∧ (x.f3.size ≤ 9223372036854775807) ∧ (0 ≤ x.f4 ∧ x.f4 ≤ 18446744073709551615)) → l1.length * 48 ≤ 140737488351232 → (∀ x ∈ l1, (0 ≤ x.f0 ∧ x.f0 ≤ 255) ∧ (0 ≤ x.f1 ∧ x.f1 ≤ 18446744073709551615) ∧ (-9223372036854775808 ≤ x.f2 ∧ x.f2 ≤ 9223372036854775807) ∧ (x.f3.size ≤ 9223372036854775807) ∧ (0 ≤ x.f4 ∧ x.f4 ≤ 18446744073709551615)) → a2.size ≤ 140737488351232 → a3.size ≤ 140737488351232 → ∃ k, arrearslaw08_QuillParts.f k l0 l1 a2 a3 = some true
end Go.Proofs.Ytdojgjbiilnjpaa.PQuillParts
