-- Printed by a program of this session's (pwrow.py); Lean checks it.
import Derived.Test.YtjidjobennlfjaaPLateBucketsx2
namespace Go.Proofs.Ytjidjobennlfjaa.PLateBuckets
open Go.RowKit Go.Proofs.YtjidjobennlfjaaW.PrintWords Go.Proofs.YtjidjobennlfjaaW.PrintLast Go.Proofs.YtjidjobennlfjaaW.PrintMore
/-- The pure statement of arrears/arrearslaw12.LateBuckets. -/
def arrearslaw12_LateBuckets.Pure : Prop := ∀ (a0 : Int) (a1 : Int) (a2 : Int), (-9223372036854775808 ≤ a0 ∧ a0 ≤ 9223372036854775807) → (0 ≤ a1 ∧ a1 ≤ 255) → (0 ≤ a2 ∧ a2 ≤ 255) → arrearslaw12_LateBuckets.f a0 a1 a2 = some true
end Go.Proofs.Ytjidjobennlfjaa.PLateBuckets
