-- Printed by a program of this session's (pwrow.py); Lean checks it.
import Derived.Test.YtkjofbdlholmbaaDoorPCoinReckonsx3
namespace Go.Proofs.YtkjofbdlholmbaaDoor.PCoinReckons
open Go.RowKit Go.Proofs.YtkjofbdlholmbaaDoorW.PrintWords Go.Proofs.YtkjofbdlholmbaaDoorW.PrintLast Go.Proofs.YtkjofbdlholmbaaDoorW.PrintMore
/-- The pure statement of arrears/arrearslaw04.CoinReckons. -/
def arrearslaw04_CoinReckons.Pure : Prop := ∀ (a0 : Int) (a1 : Int), (-9223372036854775808 ≤ a0 ∧ a0 ≤ 9223372036854775807) → (-9223372036854775808 ≤ a1 ∧ a1 ≤ 9223372036854775807) → ∃ k, arrearslaw04_CoinReckons.f k a0 a1 = some true
end Go.Proofs.YtkjofbdlholmbaaDoor.PCoinReckons
