-- Printed by a program of this session's (pwrow.py); Lean checks it.
import Derived.Test.YtbgjeelbbmcpeaaDoorPDateReadsx7
namespace Go.Proofs.YtbgjeelbbmcpeaaDoor.PDateReads
open Go.RowKit Go.Proofs.YtbgjeelbbmcpeaaDoorW.PrintWords Go.Proofs.YtbgjeelbbmcpeaaDoorW.PrintLast Go.Proofs.YtbgjeelbbmcpeaaDoorW.PrintMore
/-- The pure statement of arrears/arrearslaw05.DateReads. -/
def arrearslaw05_DateReads.Pure : Prop := ∀ (a0 : ByteArray) (a1 : Int) (a2 : Int), a0.size ≤ 140737488351232 → (-9223372036854775808 ≤ a1 ∧ a1 ≤ 9223372036854775807) → (-9223372036854775808 ≤ a2 ∧ a2 ≤ 9223372036854775807) → ∃ k, arrearslaw05_DateReads.f k a0 a1 a2 = some true
end Go.Proofs.YtbgjeelbbmcpeaaDoor.PDateReads
