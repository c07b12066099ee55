-- Printed by a program of this session's (pwrow.py); Lean checks it.
import Derived.Test.YtdojgjbiilnjpaaDoorPQuillTakesx2
namespace Go.Proofs.YtdojgjbiilnjpaaDoor.PQuillTakes
open Go.RowKit Go.Proofs.YtdojgjbiilnjpaaDoorW.PrintWords Go.Proofs.YtdojgjbiilnjpaaDoorW.PrintLast Go.Proofs.YtdojgjbiilnjpaaDoorW.PrintMore
/-- The pure statement of arrears/arrearslaw08.QuillTakes. -/
def arrearslaw08_QuillTakes.Pure : Prop := ∀ (l0 : List Int) (l1 : List (S31)), l0.length * 1 ≤ 140737488351232 → (∀ x ∈ l0, 0 ≤ x ∧ x ≤ 255) → l1.length * 48 ≤ 140737488351232 → (∀ x ∈ l1, (0 ≤ x.f0 ∧ x.f0 ≤ 255) ∧ (0 ≤ x.f1 ∧ x.f1 ≤ 18446744073709551615) ∧ (-9223372036854775808 ≤ x.f2 ∧ x.f2 ≤ 9223372036854775807) ∧ (x.f3.size ≤ 9223372036854775807) ∧ (0 ≤ x.f4 ∧ x.f4 ≤ 18446744073709551615)) → ∃ k, arrearslaw08_QuillTakes.f k l0 l1 = some true
end Go.Proofs.YtdojgjbiilnjpaaDoor.PQuillTakes
