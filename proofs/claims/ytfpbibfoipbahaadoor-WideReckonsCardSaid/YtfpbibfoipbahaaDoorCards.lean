/-
  DERIVED. GIVEN WITH THE SEED: THE CARDS: each row of YtfpbibfoipbahaaDoorRows.lean that lists a variable, with what it lists TIED to the program's text (the seventh form; the later family's looks); each row that meets fmt, with fmt's text TOLD by the authors' own Lean function (tested against real Go, not proved from fmt's source: count such statements apart). THE CARD IS WHAT COUNTS. Prove the row's statement (the work); the ties are given (YtfpbibfoipbahaaDoorTie.lean); close each card by the builder's one call (the guide's Derived/Test/ToyasCard.lean, 'card_holds'). Laid BY PROGRAM, IN A SANDBOX (cutbox-door.mjs). By AI agents, Wed Nov 11 2026. No macro, syntax, notation, axiom, sorry.
-/
import Derived.Test.YtfpbibfoipbahaaDoorRows
import GoSem.ClaimSeven
namespace Go.Proofs.YtfpbibfoipbahaaDoor
namespace Rows

/-- THE TIED CARD OF 'arrearslaw03.WideScales'. -/
def wideScalesCard : Claim7 := { stood := { row := wideScalesRow, standIns := [], harness := (true, "e59dce34e9568a8c63c1e12f2b088ee09d9308c555dfad8f732112d5ebef2822"), looks := true }, kinds := [], alts := [], laidByText := true, laidKinds := [.handle], laidTests := true, laidLooks := .later }
def WideScalesCardSaid : Prop := Claim7.holds Tryd.pinned (.plain (OpenSpec.ofChange wideScalesSpec)) wideScalesCard

/-- THE TIED CARD OF 'arrearslaw03.WideNear'. -/
def wideNearCard : Claim7 := { stood := { row := wideNearRow, standIns := [], harness := (true, "e59dce34e9568a8c63c1e12f2b088ee09d9308c555dfad8f732112d5ebef2822"), looks := true }, kinds := [], alts := [], laidByText := true, laidKinds := [.handle], laidTests := true, laidLooks := .later }
def WideNearCardSaid : Prop := Claim7.holds Tryd.pinned (.plain (OpenSpec.ofChange wideNearSpec)) wideNearCard

/-- THE TIED CARD OF 'arrearslaw03.WideBacks'. -/
def wideBacksCard : Claim7 := { stood := { row := wideBacksRow, standIns := [], harness := (true, "e59dce34e9568a8c63c1e12f2b088ee09d9308c555dfad8f732112d5ebef2822"), looks := true }, kinds := [], alts := [], laidByText := true, laidKinds := [.handle], laidTests := true, laidLooks := .later }
def WideBacksCardSaid : Prop := Claim7.holds Tryd.pinned (.plain (OpenSpec.ofChange wideBacksSpec)) wideBacksCard

/-- THE TIED CARD OF 'arrearslaw03.WideReckons'. -/
def wideReckonsCard : Claim7 := { stood := { row := wideReckonsRow, standIns := [], harness := (true, "e59dce34e9568a8c63c1e12f2b088ee09d9308c555dfad8f732112d5ebef2822"), looks := true }, kinds := [], alts := [], laidByText := true, laidKinds := [.handle], laidTests := true, laidLooks := .later }
def WideReckonsCardSaid : Prop := Claim7.holds Tryd.pinned (.plain (OpenSpec.ofChange wideReckonsSpec)) wideReckonsCard

/-- THE TIED CARD OF 'arrearslaw03.WideSums'. -/
def wideSumsCard : Claim7 := { stood := { row := wideSumsRow, standIns := [], harness := (true, "e59dce34e9568a8c63c1e12f2b088ee09d9308c555dfad8f732112d5ebef2822"), looks := true }, kinds := [], alts := [], laidByText := true, laidKinds := [.handle], laidTests := true, laidLooks := .later }
def WideSumsCardSaid : Prop := Claim7.holds Tryd.pinned (.plain (OpenSpec.ofChange wideSumsSpec)) wideSumsCard

/-- THE SECOND FORM's CARD OF 'arrearslaw03.WideScales'. -/
def wideScalesUptoCard : Claim7 := { stood := { row := wideScalesUptoRow, standIns := [], harness := (true, "e59dce34e9568a8c63c1e12f2b088ee09d9308c555dfad8f732112d5ebef2822"), looks := true }, kinds := [], alts := [], laidByText := true, laidKinds := [.handle], laidTests := true, laidLooks := .later }
def WideScalesUptoCardSaid : Prop := Claim7.holds Tryd.pinned (.plain (OpenSpec.upto wideScalesSpec)) wideScalesUptoCard

/-- THE SECOND FORM's CARD OF 'arrearslaw03.WideNear'. -/
def wideNearUptoCard : Claim7 := { stood := { row := wideNearUptoRow, standIns := [], harness := (true, "e59dce34e9568a8c63c1e12f2b088ee09d9308c555dfad8f732112d5ebef2822"), looks := true }, kinds := [], alts := [], laidByText := true, laidKinds := [.handle], laidTests := true, laidLooks := .later }
def WideNearUptoCardSaid : Prop := Claim7.holds Tryd.pinned (.plain (OpenSpec.upto wideNearSpec)) wideNearUptoCard

/-- THE SECOND FORM's CARD OF 'arrearslaw03.WideBacks'. -/
def wideBacksUptoCard : Claim7 := { stood := { row := wideBacksUptoRow, standIns := [], harness := (true, "e59dce34e9568a8c63c1e12f2b088ee09d9308c555dfad8f732112d5ebef2822"), looks := true }, kinds := [], alts := [], laidByText := true, laidKinds := [.handle], laidTests := true, laidLooks := .later }
def WideBacksUptoCardSaid : Prop := Claim7.holds Tryd.pinned (.plain (OpenSpec.upto wideBacksSpec)) wideBacksUptoCard

/-- THE SECOND FORM's CARD OF 'arrearslaw03.WideReckons'. -/
def wideReckonsUptoCard : Claim7 := { stood := { row := wideReckonsUptoRow, standIns := [], harness := (true, "e59dce34e9568a8c63c1e12f2b088ee09d9308c555dfad8f732112d5ebef2822"), looks := true }, kinds := [], alts := [], laidByText := true, laidKinds := [.handle], laidTests := true, laidLooks := .later }
def WideReckonsUptoCardSaid : Prop := Claim7.holds Tryd.pinned (.plain (OpenSpec.upto wideReckonsSpec)) wideReckonsUptoCard

/-- THE SECOND FORM's CARD OF 'arrearslaw03.WideSums'. -/
def wideSumsUptoCard : Claim7 := { stood := { row := wideSumsUptoRow, standIns := [], harness := (true, "e59dce34e9568a8c63c1e12f2b088ee09d9308c555dfad8f732112d5ebef2822"), looks := true }, kinds := [], alts := [], laidByText := true, laidKinds := [.handle], laidTests := true, laidLooks := .later }
def WideSumsUptoCardSaid : Prop := Claim7.holds Tryd.pinned (.plain (OpenSpec.upto wideSumsSpec)) wideSumsUptoCard
end Rows
end Go.Proofs.YtfpbibfoipbahaaDoor
