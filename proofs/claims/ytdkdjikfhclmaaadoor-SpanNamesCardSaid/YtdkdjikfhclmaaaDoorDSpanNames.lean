-- Printed by a program of this session's (pwrow.py); Lean checks it.
import Derived.Test.YtdkdjikfhclmaaaDoorPSpanNamesx4
namespace Go.Proofs.YtdkdjikfhclmaaaDoor.PSpanNames
open Go.RowKit Go.Proofs.YtdkdjikfhclmaaaDoorW.PrintWords Go.Proofs.YtdkdjikfhclmaaaDoorW.PrintLast Go.Proofs.YtdkdjikfhclmaaaDoorW.PrintMore
/-- The pure statement of arrears/arrearslaw06.SpanNames. -/
def arrearslaw06_SpanNames.Pure : Prop := ∀ (a0 : Int) (a1 : ByteArray), (0 ≤ a0 ∧ a0 ≤ 255) → a1.size ≤ 140737488351232 → ∃ k, arrearslaw06_SpanNames.f k a0 a1 = some true
end Go.Proofs.YtdkdjikfhclmaaaDoor.PSpanNames
