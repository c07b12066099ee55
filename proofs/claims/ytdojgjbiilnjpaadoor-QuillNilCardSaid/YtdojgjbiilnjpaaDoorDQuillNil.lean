-- Printed by a program of this session's (pwrow.py); Lean checks it.
import Derived.Test.YtdojgjbiilnjpaaDoorPQuillNilx1
namespace Go.Proofs.YtdojgjbiilnjpaaDoor.PQuillNil
open Go.RowKit Go.Proofs.YtdojgjbiilnjpaaDoorW.PrintWords Go.Proofs.YtdojgjbiilnjpaaDoorW.PrintLast Go.Proofs.YtdojgjbiilnjpaaDoorW.PrintMore
/-- The pure statement of arrears/arrearslaw08.QuillNil. -/
def arrearslaw08_QuillNil.Pure : Prop := ∀ (a0 : Int) (a1 : ByteArray) (a2 : Int), (0 ≤ a0 ∧ a0 ≤ 18446744073709551615) → a1.size ≤ 140737488351232 → (-9223372036854775808 ≤ a2 ∧ a2 ≤ 9223372036854775807) → ∃ k, arrearslaw08_QuillNil.f k a0 a1 a2 = some true
end Go.Proofs.YtdojgjbiilnjpaaDoor.PQuillNil
