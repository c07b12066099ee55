-- Printed by a program of this session's (pwrow.py); Lean checks it.
import Derived.Test.YtbgjeelbbmcpeaaPDateGoesx4
namespace Go.Proofs.Ytbgjeelbbmcpeaa.PDateGoes
open Go.RowKit Go.Proofs.YtbgjeelbbmcpeaaW.PrintWords Go.Proofs.YtbgjeelbbmcpeaaW.PrintLast Go.Proofs.YtbgjeelbbmcpeaaW.PrintMore
/-- The pure statement of arrears/arrearslaw05.DateGoes. -/
def arrearslaw05_DateGoes.Pure : Prop := ∀ (a0 : Int), (-2147483648 ≤ a0 ∧ a0 ≤ 2147483647) → ∃ k, arrearslaw05_DateGoes.f k a0 = some true
end Go.Proofs.Ytbgjeelbbmcpeaa.PDateGoes
