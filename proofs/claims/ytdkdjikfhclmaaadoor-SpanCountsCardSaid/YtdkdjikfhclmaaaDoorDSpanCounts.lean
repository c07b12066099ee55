-- Printed by a program of this session's (pwrow.py); Lean checks it.
import Derived.Test.YtdkdjikfhclmaaaDoorPSpanCountsx4
namespace Go.Proofs.YtdkdjikfhclmaaaDoor.PSpanCounts
open Go.RowKit Go.Proofs.YtdkdjikfhclmaaaDoorW.PrintWords Go.Proofs.YtdkdjikfhclmaaaDoorW.PrintLast Go.Proofs.YtdkdjikfhclmaaaDoorW.PrintMore
/-- The pure statement of arrears/arrearslaw06.SpanCounts. -/
def arrearslaw06_SpanCounts.Pure : Prop := ∀ (a0 : Int) (a1 : Int) (a2 : Int), (0 ≤ a0 ∧ a0 ≤ 255) → (-2147483648 ≤ a1 ∧ a1 ≤ 2147483647) → (-2147483648 ≤ a2 ∧ a2 ≤ 2147483647) → ∃ k, arrearslaw06_SpanCounts.f k a0 a1 a2 = some true
end Go.Proofs.YtdkdjikfhclmaaaDoor.PSpanCounts
