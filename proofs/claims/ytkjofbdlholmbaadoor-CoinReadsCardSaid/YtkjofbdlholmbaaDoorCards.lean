/-
  DERIVED. GIVEN WITH THE SEED: THE CARDS: each row of YtkjofbdlholmbaaDoorRows.lean that lists a variable, with what it lists TIED to the program's text (the seventh form; the later family's looks); each row that meets fmt, with fmt's text TOLD by the authors' own Lean function (tested against real Go, not proved from fmt's source: count such statements apart). THE CARD IS WHAT COUNTS. Prove the row's statement (the work); the ties are given (YtkjofbdlholmbaaDoorTie.lean); close each card by the builder's one call (the guide's Derived/Test/ToyasCard.lean, 'card_holds'). Laid BY PROGRAM, IN A SANDBOX (cutbox-door.mjs). By AI agents, Wed Nov 11 2026. No macro, syntax, notation, axiom, sorry.
-/
import Derived.Test.YtkjofbdlholmbaaDoorRows
import GoSem.ClaimSeven
namespace Go.Proofs.YtkjofbdlholmbaaDoor
namespace Rows

/-- THE TIED CARD OF 'arrearslaw04.CoinTexts'. -/
def coinTextsCard : Claim7 := { stood := { row := coinTextsRow, standIns := [], harness := (true, "4726aea24117702edcf4cf0e644c30936ca2c872714afb47724f2b6def04f5da"), looks := true }, kinds := [], alts := [], laidByText := true, laidKinds := [.data, .data, .data, .sentinel, .sentinel], laidTests := true, laidLooks := .later }
def CoinTextsCardSaid : Prop := Claim7.holds Tryd.pinned (.plain (OpenSpec.ofChange coinTextsSpec)) coinTextsCard

/-- THE TIED CARD OF 'arrearslaw04.CoinOrders'. -/
def coinOrdersCard : Claim7 := { stood := { row := coinOrdersRow, standIns := [], harness := (true, "4726aea24117702edcf4cf0e644c30936ca2c872714afb47724f2b6def04f5da"), looks := true }, kinds := [], alts := [], laidByText := true, laidKinds := [.data, .data, .data, .sentinel, .sentinel], laidTests := true, laidLooks := .later }
def CoinOrdersCardSaid : Prop := Claim7.holds Tryd.pinned (.plain (OpenSpec.ofChange coinOrdersSpec)) coinOrdersCard

/-- THE TIED CARD OF 'arrearslaw04.CoinReads'. -/
def coinReadsCard : Claim7 := { stood := { row := coinReadsRow, standIns := [], harness := (true, "4726aea24117702edcf4cf0e644c30936ca2c872714afb47724f2b6def04f5da"), looks := true }, kinds := [], alts := [], laidByText := true, laidKinds := [.data, .data, .data, .handle, .sentinel, .sentinel], laidTests := true, laidLooks := .later }
def CoinReadsCardSaid : Prop := Claim7.holds Tryd.pinned (.plain (OpenSpec.ofChange coinReadsSpec)) coinReadsCard

/-- THE TIED CARD OF 'arrearslaw04.CoinSums'. -/
def coinSumsCard : Claim7 := { stood := { row := coinSumsRow, standIns := [], harness := (true, "4726aea24117702edcf4cf0e644c30936ca2c872714afb47724f2b6def04f5da"), looks := true }, kinds := [], alts := [], laidByText := true, laidKinds := [.data, .data, .data, .handle, .sentinel, .sentinel], laidTests := true, laidLooks := .later }
def CoinSumsCardSaid : Prop := Claim7.holds Tryd.pinned (.plain (OpenSpec.ofChange coinSumsSpec)) coinSumsCard

/-- THE TIED CARD OF 'arrearslaw04.CoinReckons'. -/
def coinReckonsCard : Claim7 := { stood := { row := coinReckonsRow, standIns := [], harness := (true, "4726aea24117702edcf4cf0e644c30936ca2c872714afb47724f2b6def04f5da"), looks := true }, kinds := [], alts := [], laidByText := true, laidKinds := [.data, .data, .data, .handle, .sentinel, .sentinel], laidTests := true, laidLooks := .later }
def CoinReckonsCardSaid : Prop := Claim7.holds Tryd.pinned (.plain (OpenSpec.ofChange coinReckonsSpec)) coinReckonsCard

/-- THE SECOND FORM's CARD OF 'arrearslaw04.CoinTexts'. -/
def coinTextsUptoCard : Claim7 := { stood := { row := coinTextsUptoRow, standIns := [], harness := (true, "4726aea24117702edcf4cf0e644c30936ca2c872714afb47724f2b6def04f5da"), looks := true }, kinds := [], alts := [], laidByText := true, laidKinds := [.data, .data, .data, .sentinel, .sentinel], laidTests := true, laidLooks := .later }
def CoinTextsUptoCardSaid : Prop := Claim7.holds Tryd.pinned (.plain (OpenSpec.upto coinTextsSpec)) coinTextsUptoCard

/-- THE SECOND FORM's CARD OF 'arrearslaw04.CoinOrders'. -/
def coinOrdersUptoCard : Claim7 := { stood := { row := coinOrdersUptoRow, standIns := [], harness := (true, "4726aea24117702edcf4cf0e644c30936ca2c872714afb47724f2b6def04f5da"), looks := true }, kinds := [], alts := [], laidByText := true, laidKinds := [.data, .data, .data, .sentinel, .sentinel], laidTests := true, laidLooks := .later }
def CoinOrdersUptoCardSaid : Prop := Claim7.holds Tryd.pinned (.plain (OpenSpec.upto coinOrdersSpec)) coinOrdersUptoCard

/-- THE SECOND FORM's CARD OF 'arrearslaw04.CoinReads'. -/
def coinReadsUptoCard : Claim7 := { stood := { row := coinReadsUptoRow, standIns := [], harness := (true, "4726aea24117702edcf4cf0e644c30936ca2c872714afb47724f2b6def04f5da"), looks := true }, kinds := [], alts := [], laidByText := true, laidKinds := [.data, .data, .data, .handle, .sentinel, .sentinel], laidTests := true, laidLooks := .later }
def CoinReadsUptoCardSaid : Prop := Claim7.holds Tryd.pinned (.plain (OpenSpec.upto coinReadsSpec)) coinReadsUptoCard

/-- THE SECOND FORM's CARD OF 'arrearslaw04.CoinSums'. -/
def coinSumsUptoCard : Claim7 := { stood := { row := coinSumsUptoRow, standIns := [], harness := (true, "4726aea24117702edcf4cf0e644c30936ca2c872714afb47724f2b6def04f5da"), looks := true }, kinds := [], alts := [], laidByText := true, laidKinds := [.data, .data, .data, .handle, .sentinel, .sentinel], laidTests := true, laidLooks := .later }
def CoinSumsUptoCardSaid : Prop := Claim7.holds Tryd.pinned (.plain (OpenSpec.upto coinSumsSpec)) coinSumsUptoCard

/-- THE SECOND FORM's CARD OF 'arrearslaw04.CoinReckons'. -/
def coinReckonsUptoCard : Claim7 := { stood := { row := coinReckonsUptoRow, standIns := [], harness := (true, "4726aea24117702edcf4cf0e644c30936ca2c872714afb47724f2b6def04f5da"), looks := true }, kinds := [], alts := [], laidByText := true, laidKinds := [.data, .data, .data, .handle, .sentinel, .sentinel], laidTests := true, laidLooks := .later }
def CoinReckonsUptoCardSaid : Prop := Claim7.holds Tryd.pinned (.plain (OpenSpec.upto coinReckonsSpec)) coinReckonsUptoCard
end Rows
end Go.Proofs.YtkjofbdlholmbaaDoor
