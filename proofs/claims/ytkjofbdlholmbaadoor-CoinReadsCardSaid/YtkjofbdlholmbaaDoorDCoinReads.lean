-- Printed by a program of this session's (pwrow.py); Lean checks it.
import Derived.Test.YtkjofbdlholmbaaDoorPCoinReadsx5
namespace Go.Proofs.YtkjofbdlholmbaaDoor.PCoinReads
open Go.RowKit Go.Proofs.YtkjofbdlholmbaaDoorW.PrintWords Go.Proofs.YtkjofbdlholmbaaDoorW.PrintLast Go.Proofs.YtkjofbdlholmbaaDoorW.PrintMore
/-- The pure statement of arrears/arrearslaw04.CoinReads. -/
def arrearslaw04_CoinReads.Pure : Prop := ∀ (a0 : ByteArray), a0.size ≤ 140737488351232 → ∃ k, arrearslaw04_CoinReads.f k a0 = some true
end Go.Proofs.YtkjofbdlholmbaaDoor.PCoinReads
