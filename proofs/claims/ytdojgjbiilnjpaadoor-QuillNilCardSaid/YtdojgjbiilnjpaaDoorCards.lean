/-
  DERIVED. GIVEN WITH THE SEED: THE CARDS: each row of YtdojgjbiilnjpaaDoorRows.lean that lists a variable, with what it lists TIED to the program's text (the seventh form; the later family's looks); each row that meets fmt, with fmt's text TOLD by the authors' own Lean function (tested against real Go, not proved from fmt's source: count such statements apart). THE CARD IS WHAT COUNTS. Prove the row's statement (the work); the ties are given (YtdojgjbiilnjpaaDoorTie.lean); close each card by the builder's one call (the guide's Derived/Test/ToyasCard.lean, 'card_holds'). Laid BY PROGRAM, IN A SANDBOX (cutbox-door.mjs). By AI agents, Wed Nov 11 2026. No macro, syntax, notation, axiom, sorry.
-/
import Derived.Test.YtdojgjbiilnjpaaDoorRows
import GoSem.ClaimSeven
namespace Go.Proofs.YtdojgjbiilnjpaaDoor
namespace Rows

/-- THE TIED CARD OF 'arrearslaw08.QuillTakes'. -/
def quillTakesCard : Claim7 := { stood := { row := quillTakesRow, standIns := [], harness := (true, "5e4c69a551a550eed684a1c648a3f0eacf5090657c2c8273f976ee05618d2c05"), looks := true }, kinds := [], alts := [], laidByText := true, laidKinds := [.handle], laidTests := true, laidLooks := .later }
def QuillTakesCardSaid : Prop := Claim7.holds Tryd.pinned (.plain (OpenSpec.ofChange quillTakesSpec)) quillTakesCard

/-- THE TIED CARD OF 'arrearslaw08.QuillNil'. -/
def quillNilCard : Claim7 := { stood := { row := quillNilRow, standIns := [], harness := (true, "5e4c69a551a550eed684a1c648a3f0eacf5090657c2c8273f976ee05618d2c05"), looks := true }, kinds := [], alts := [], laidByText := true, laidKinds := [.handle], laidTests := true, laidLooks := .later }
def QuillNilCardSaid : Prop := Claim7.holds Tryd.pinned (.plain (OpenSpec.ofChange quillNilSpec)) quillNilCard

/-- THE SECOND FORM's CARD OF 'arrearslaw08.QuillTakes'. -/
def quillTakesUptoCard : Claim7 := { stood := { row := quillTakesUptoRow, standIns := [], harness := (true, "5e4c69a551a550eed684a1c648a3f0eacf5090657c2c8273f976ee05618d2c05"), looks := true }, kinds := [], alts := [], laidByText := true, laidKinds := [.handle], laidTests := true, laidLooks := .later }
def QuillTakesUptoCardSaid : Prop := Claim7.holds Tryd.pinned (.plain (OpenSpec.upto quillTakesSpec)) quillTakesUptoCard

/-- THE SECOND FORM's CARD OF 'arrearslaw08.QuillNil'. -/
def quillNilUptoCard : Claim7 := { stood := { row := quillNilUptoRow, standIns := [], harness := (true, "5e4c69a551a550eed684a1c648a3f0eacf5090657c2c8273f976ee05618d2c05"), looks := true }, kinds := [], alts := [], laidByText := true, laidKinds := [.handle], laidTests := true, laidLooks := .later }
def QuillNilUptoCardSaid : Prop := Claim7.holds Tryd.pinned (.plain (OpenSpec.upto quillNilSpec)) quillNilUptoCard
end Rows
end Go.Proofs.YtdojgjbiilnjpaaDoor
