-- Printed by a program of this session's (pwrow.py); Lean checks it.
import Derived.Test.YtdkdjikfhclmaaaDoorPSpanAddsx4
namespace Go.Proofs.YtdkdjikfhclmaaaDoor.PSpanAdds
open Go.RowKit Go.Proofs.YtdkdjikfhclmaaaDoorW.PrintWords Go.Proofs.YtdkdjikfhclmaaaDoorW.PrintLast Go.Proofs.YtdkdjikfhclmaaaDoorW.PrintMore
/-- The pure statement of arrears/arrearslaw06.SpanAdds. -/
def arrearslaw06_SpanAdds.Pure : Prop := ∀ (a0 : Int) (a1 : Int) (a2 : Int) (a3 : Int), (0 ≤ a0 ∧ a0 ≤ 255) → (0 ≤ a1 ∧ a1 ≤ 65535) → (0 ≤ a2 ∧ a2 ≤ 255) → (0 ≤ a3 ∧ a3 ≤ 255) → ∃ k, arrearslaw06_SpanAdds.f k a0 a1 a2 a3 = some true
end Go.Proofs.YtdkdjikfhclmaaaDoor.PSpanAdds
