/-
  DERIVED. GIVEN WITH THE SEED: THE CARDS: each row of YtoclgoknednjgaaDoorRows.lean that lists a variable, with what it lists TIED to the program's text (the seventh form; the later family's looks); each row that meets fmt, with fmt's text TOLD by the authors' own Lean function (tested against real Go, not proved from fmt's source: count such statements apart). THE CARD IS WHAT COUNTS. Prove the row's statement (the work); the ties are given (YtoclgoknednjgaaDoorTie.lean); close each card by the builder's one call (the guide's Derived/Test/ToyasCard.lean, 'card_holds'). Laid BY PROGRAM, IN A SANDBOX (cutbox-door.mjs). By AI agents, Wed Nov 11 2026. No macro, syntax, notation, axiom, sorry.
-/
import Derived.Test.YtoclgoknednjgaaDoorRows
import GoSem.ClaimSeven
namespace Go.Proofs.YtoclgoknednjgaaDoor
namespace Rows

/-- THE TIED CARD OF 'arrearslaw10.LevelPays'. -/
def levelPaysCard : Claim7 := { stood := { row := levelPaysRow, standIns := [], harness := (true, "ed75031ced2a14fd899d62ea8b5a08bfeef534a533a9ee642417e9b0910e1792"), looks := true }, kinds := [], alts := [], laidByText := true, laidKinds := [.handle], laidTests := true, laidLooks := .later }
def LevelPaysCardSaid : Prop := Claim7.holds Tryd.pinned (.plain (OpenSpec.ofChange levelPaysSpec)) levelPaysCard

/-- THE TIED CARD OF 'arrearslaw10.LevelRows'. -/
def levelRowsCard : Claim7 := { stood := { row := levelRowsRow, standIns := [], harness := (true, "ed75031ced2a14fd899d62ea8b5a08bfeef534a533a9ee642417e9b0910e1792"), looks := true }, kinds := [], alts := [], laidByText := true, laidKinds := [.handle], laidTests := true, laidLooks := .later }
def LevelRowsCardSaid : Prop := Claim7.holds Tryd.pinned (.plain (OpenSpec.ofChange levelRowsSpec)) levelRowsCard

/-- THE SECOND FORM's CARD OF 'arrearslaw10.LevelPays'. -/
def levelPaysUptoCard : Claim7 := { stood := { row := levelPaysUptoRow, standIns := [], harness := (true, "ed75031ced2a14fd899d62ea8b5a08bfeef534a533a9ee642417e9b0910e1792"), looks := true }, kinds := [], alts := [], laidByText := true, laidKinds := [.handle], laidTests := true, laidLooks := .later }
def LevelPaysUptoCardSaid : Prop := Claim7.holds Tryd.pinned (.plain (OpenSpec.upto levelPaysSpec)) levelPaysUptoCard

/-- THE SECOND FORM's CARD OF 'arrearslaw10.LevelRows'. -/
def levelRowsUptoCard : Claim7 := { stood := { row := levelRowsUptoRow, standIns := [], harness := (true, "ed75031ced2a14fd899d62ea8b5a08bfeef534a533a9ee642417e9b0910e1792"), looks := true }, kinds := [], alts := [], laidByText := true, laidKinds := [.handle], laidTests := true, laidLooks := .later }
def LevelRowsUptoCardSaid : Prop := Claim7.holds Tryd.pinned (.plain (OpenSpec.upto levelRowsSpec)) levelRowsUptoCard
end Rows
end Go.Proofs.YtoclgoknednjgaaDoor
