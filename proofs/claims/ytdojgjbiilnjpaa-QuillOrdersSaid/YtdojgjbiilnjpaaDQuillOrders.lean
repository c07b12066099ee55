-- Printed by a program of this session's (pwrow.py); Lean checks it.
import Derived.Test.YtdojgjbiilnjpaaPQuillOrdersx1
namespace Go.Proofs.Ytdojgjbiilnjpaa.PQuillOrders
open Go.RowKit Go.Proofs.YtdojgjbiilnjpaaW.PrintWords Go.Proofs.YtdojgjbiilnjpaaW.PrintLast Go.Proofs.YtdojgjbiilnjpaaW.PrintMore
/-- The pure statement of arrears/arrearslaw08.QuillOrders. -/
def arrearslaw08_QuillOrders.Pure : Prop := ∀ (a0 : Int) (a1 : Int) (a2 : Int), (0 ≤ a0 ∧ a0 ≤ 18446744073709551615) → (0 ≤ a1 ∧ a1 ≤ 18446744073709551615) → (-9223372036854775808 ≤ a2 ∧ a2 ≤ 9223372036854775807) → arrearslaw08_QuillOrders.f a0 a1 a2 = some true
end Go.Proofs.Ytdojgjbiilnjpaa.PQuillOrders
