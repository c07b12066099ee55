-- Printed by a program of this session's (pwrow.py); Lean checks it.
import Derived.Test.YtdkdjikfhclmaaaDoorPSpanOnesx4
namespace Go.Proofs.YtdkdjikfhclmaaaDoor.PSpanOnes
open Go.RowKit Go.Proofs.YtdkdjikfhclmaaaDoorW.PrintWords Go.Proofs.YtdkdjikfhclmaaaDoorW.PrintLast Go.Proofs.YtdkdjikfhclmaaaDoorW.PrintMore
/-- The pure statement of arrears/arrearslaw06.SpanOnes. -/
def arrearslaw06_SpanOnes.Pure : Prop := ∀ (a0 : Int) (a1 : Int), (0 ≤ a0 ∧ a0 ≤ 255) → (-2147483648 ≤ a1 ∧ a1 ≤ 2147483647) → ∃ k, arrearslaw06_SpanOnes.f k a0 a1 = some true
end Go.Proofs.YtdkdjikfhclmaaaDoor.PSpanOnes
