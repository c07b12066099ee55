-- Printed by a program of this session's (pwrow.py); Lean checks it.
import Derived.Test.YtkjofbdlholmbaaDoorPCoinTextsx2
namespace Go.Proofs.YtkjofbdlholmbaaDoor.PCoinTexts
open Go.RowKit Go.Proofs.YtkjofbdlholmbaaDoorW.PrintWords Go.Proofs.YtkjofbdlholmbaaDoorW.PrintLast Go.Proofs.YtkjofbdlholmbaaDoorW.PrintMore
/-- The pure statement of arrears/arrearslaw04.CoinTexts. -/
def arrearslaw04_CoinTexts.Pure : Prop := ∀ (a0 : Int), (-9223372036854775808 ≤ a0 ∧ a0 ≤ 9223372036854775807) → ∃ k, arrearslaw04_CoinTexts.f k a0 = some true
end Go.Proofs.YtkjofbdlholmbaaDoor.PCoinTexts
