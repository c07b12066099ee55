-- Printed by a program of this session's (pwrow.py); Lean checks it.
import Derived.Test.YtdkdjikfhclmaaaDoorPSpanYearsx4
namespace Go.Proofs.YtdkdjikfhclmaaaDoor.PSpanYears
open Go.RowKit Go.Proofs.YtdkdjikfhclmaaaDoorW.PrintWords Go.Proofs.YtdkdjikfhclmaaaDoorW.PrintLast Go.Proofs.YtdkdjikfhclmaaaDoorW.PrintMore
/-- The pure statement of arrears/arrearslaw06.SpanYears. -/
def arrearslaw06_SpanYears.Pure : Prop := ∀ (a0 : Int), (0 ≤ a0 ∧ a0 ≤ 65535) → ∃ k, arrearslaw06_SpanYears.f k a0 = some true
end Go.Proofs.YtdkdjikfhclmaaaDoor.PSpanYears
