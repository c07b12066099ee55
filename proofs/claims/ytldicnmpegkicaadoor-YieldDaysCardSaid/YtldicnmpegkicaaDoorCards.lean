/-
  DERIVED. GIVEN WITH THE SEED: THE CARDS: each row of YtldicnmpegkicaaDoorRows.lean that lists a variable, with what it lists TIED to the program's text (the seventh form; the later family's looks); each row that meets fmt, with fmt's text TOLD by the authors' own Lean function (tested against real Go, not proved from fmt's source: count such statements apart). THE CARD IS WHAT COUNTS. Prove the row's statement (the work); the ties are given (YtldicnmpegkicaaDoorTie.lean); close each card by the builder's one call (the guide's Derived/Test/ToyasCard.lean, 'card_holds'). Laid BY PROGRAM, IN A SANDBOX (cutbox-door.mjs). By AI agents, Wed Nov 11 2026. No macro, syntax, notation, axiom, sorry.
-/
import Derived.Test.YtldicnmpegkicaaDoorRows
import GoSem.ClaimSeven
namespace Go.Proofs.YtldicnmpegkicaaDoor
namespace Rows

/-- THE TIED CARD OF 'arrearslaw09.YieldReckons'. -/
def yieldReckonsCard : Claim7 := { stood := { row := yieldReckonsRow, standIns := [], harness := (true, "99de3a8c571f94fe64337cd7e8fee43d9aa5deb999cca8d512b6acd8e95185e9"), looks := true }, kinds := [], alts := [], laidByText := true, laidKinds := [.handle], laidTests := true, laidLooks := .later }
def YieldReckonsCardSaid : Prop := Claim7.holds Tryd.pinned (.plain (OpenSpec.ofChange yieldReckonsSpec)) yieldReckonsCard

/-- THE TIED CARD OF 'arrearslaw09.YieldDays'. -/
def yieldDaysCard : Claim7 := { stood := { row := yieldDaysRow, standIns := [], harness := (true, "99de3a8c571f94fe64337cd7e8fee43d9aa5deb999cca8d512b6acd8e95185e9"), looks := true }, kinds := [], alts := [], laidByText := true, laidKinds := [.handle], laidTests := true, laidLooks := .later }
def YieldDaysCardSaid : Prop := Claim7.holds Tryd.pinned (.plain (OpenSpec.ofChange yieldDaysSpec)) yieldDaysCard

/-- THE SECOND FORM's CARD OF 'arrearslaw09.YieldReckons'. -/
def yieldReckonsUptoCard : Claim7 := { stood := { row := yieldReckonsUptoRow, standIns := [], harness := (true, "99de3a8c571f94fe64337cd7e8fee43d9aa5deb999cca8d512b6acd8e95185e9"), looks := true }, kinds := [], alts := [], laidByText := true, laidKinds := [.handle], laidTests := true, laidLooks := .later }
def YieldReckonsUptoCardSaid : Prop := Claim7.holds Tryd.pinned (.plain (OpenSpec.upto yieldReckonsSpec)) yieldReckonsUptoCard

/-- THE SECOND FORM's CARD OF 'arrearslaw09.YieldDays'. -/
def yieldDaysUptoCard : Claim7 := { stood := { row := yieldDaysUptoRow, standIns := [], harness := (true, "99de3a8c571f94fe64337cd7e8fee43d9aa5deb999cca8d512b6acd8e95185e9"), looks := true }, kinds := [], alts := [], laidByText := true, laidKinds := [.handle], laidTests := true, laidLooks := .later }
def YieldDaysUptoCardSaid : Prop := Claim7.holds Tryd.pinned (.plain (OpenSpec.upto yieldDaysSpec)) yieldDaysUptoCard
end Rows
end Go.Proofs.YtldicnmpegkicaaDoor
