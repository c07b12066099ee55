-- Printed by a program of this session's (pwrow.py); Lean checks it.
import Derived.Test.YtkjofbdlholmbaaDoorPCoinSumsx3
namespace Go.Proofs.YtkjofbdlholmbaaDoor.PCoinSums
open Go.RowKit Go.Proofs.YtkjofbdlholmbaaDoorW.PrintWords Go.Proofs.YtkjofbdlholmbaaDoorW.PrintLast Go.Proofs.YtkjofbdlholmbaaDoorW.PrintMore
/-- The pure statement of arrears/arrearslaw04.CoinSums. -/
def arrearslaw04_CoinSums.Pure : Prop := ∀ (l0 : List Int), l0.length * 8 ≤ 140737488351232 → (∀ x ∈ l0, -9223372036854775808 ≤ x ∧ x ≤ 9223372036854775807) → ∃ k, arrearslaw04_CoinSums.f k l0 = some true
end Go.Proofs.YtkjofbdlholmbaaDoor.PCoinSums
