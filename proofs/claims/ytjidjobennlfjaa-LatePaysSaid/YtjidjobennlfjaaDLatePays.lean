-- Printed by a program of this session's (pwrow.py); Lean checks it.
import Derived.Test.YtjidjobennlfjaaPLatePaysx2
namespace Go.Proofs.Ytjidjobennlfjaa.PLatePays
open Go.RowKit Go.Proofs.YtjidjobennlfjaaW.PrintWords Go.Proofs.YtjidjobennlfjaaW.PrintLast Go.Proofs.YtjidjobennlfjaaW.PrintMore
/-- The pure statement of arrears/arrearslaw12.LatePays. -/
def arrearslaw12_LatePays.Pure : Prop := ∀ (l0 : List Int) (a1 : Int) (a2 : Int), l0.length * 1 ≤ 140737488351232 → (∀ x ∈ l0, 0 ≤ x ∧ x ≤ 255) → (0 ≤ a1 ∧ a1 ≤ 65535) → (0 ≤ a2 ∧ a2 ≤ 255) → ∃ k, arrearslaw12_LatePays.f k l0 a1 a2 = some true
end Go.Proofs.Ytjidjobennlfjaa.PLatePays
