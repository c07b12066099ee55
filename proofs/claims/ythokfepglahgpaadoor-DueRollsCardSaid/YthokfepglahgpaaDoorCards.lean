/-
  DERIVED. GIVEN WITH THE SEED: THE CARDS: each row of YthokfepglahgpaaDoorRows.lean that lists a variable, with what it lists TIED to the program's text (the seventh form; the later family's looks); each row that meets fmt, with fmt's text TOLD by the authors' own Lean function (tested against real Go, not proved from fmt's source: count such statements apart). THE CARD IS WHAT COUNTS. Prove the row's statement (the work); the ties are given (YthokfepglahgpaaDoorTie.lean); close each card by the builder's one call (the guide's Derived/Test/ToyasCard.lean, 'card_holds'). Laid BY PROGRAM, IN A SANDBOX (cutbox-door.mjs). By AI agents, Wed Nov 11 2026. No macro, syntax, notation, axiom, sorry.
-/
import Derived.Test.YthokfepglahgpaaDoorRows
import GoSem.ClaimSeven
namespace Go.Proofs.YthokfepglahgpaaDoor
namespace Rows

/-- THE TIED CARD OF 'arrearslaw07.DueLasts'. -/
def dueLastsCard : Claim7 := { stood := { row := dueLastsRow, standIns := [], harness := (true, "237c26d061cca438716161b3dcf60523070e5301d7cc11a629e1514c339d46ec"), looks := true }, kinds := [], alts := [], laidByText := true, laidKinds := [.data, .data, .data, .sentinel, .sentinel], laidTests := true, laidLooks := .later }
def DueLastsCardSaid : Prop := Claim7.holds Tryd.pinned (.plain (OpenSpec.ofChange dueLastsSpec)) dueLastsCard

/-- THE TIED CARD OF 'arrearslaw07.DueRight'. -/
def dueRightCard : Claim7 := { stood := { row := dueRightRow, standIns := [], harness := (true, "237c26d061cca438716161b3dcf60523070e5301d7cc11a629e1514c339d46ec"), looks := true }, kinds := [], alts := [], laidByText := true, laidKinds := [.data, .data, .data, .sentinel, .sentinel], laidTests := true, laidLooks := .later }
def DueRightCardSaid : Prop := Claim7.holds Tryd.pinned (.plain (OpenSpec.ofChange dueRightSpec)) dueRightCard

/-- THE TIED CARD OF 'arrearslaw07.DueCounts'. -/
def dueCountsCard : Claim7 := { stood := { row := dueCountsRow, standIns := [], harness := (true, "237c26d061cca438716161b3dcf60523070e5301d7cc11a629e1514c339d46ec"), looks := true }, kinds := [], alts := [], laidByText := true, laidKinds := [.data, .data, .data, .sentinel, .sentinel], laidTests := true, laidLooks := .later }
def DueCountsCardSaid : Prop := Claim7.holds Tryd.pinned (.plain (OpenSpec.ofChange dueCountsSpec)) dueCountsCard

/-- THE TIED CARD OF 'arrearslaw07.DueOpens'. -/
def dueOpensCard : Claim7 := { stood := { row := dueOpensRow, standIns := [], harness := (true, "237c26d061cca438716161b3dcf60523070e5301d7cc11a629e1514c339d46ec"), looks := true }, kinds := [], alts := [], laidByText := true, laidKinds := [.data, .data, .data, .handle, .sentinel, .sentinel], laidTests := true, laidLooks := .later }
def DueOpensCardSaid : Prop := Claim7.holds Tryd.pinned (.plain (OpenSpec.ofChange dueOpensSpec)) dueOpensCard

/-- THE TIED CARD OF 'arrearslaw07.DueNext'. -/
def dueNextCard : Claim7 := { stood := { row := dueNextRow, standIns := [], harness := (true, "237c26d061cca438716161b3dcf60523070e5301d7cc11a629e1514c339d46ec"), looks := true }, kinds := [], alts := [], laidByText := true, laidKinds := [.data, .data, .data, .handle, .sentinel, .sentinel], laidTests := true, laidLooks := .later }
def DueNextCardSaid : Prop := Claim7.holds Tryd.pinned (.plain (OpenSpec.ofChange dueNextSpec)) dueNextCard

/-- THE TIED CARD OF 'arrearslaw07.DueRolls'. -/
def dueRollsCard : Claim7 := { stood := { row := dueRollsRow, standIns := [], harness := (true, "237c26d061cca438716161b3dcf60523070e5301d7cc11a629e1514c339d46ec"), looks := true }, kinds := [], alts := [], laidByText := true, laidKinds := [.data, .data, .data, .handle, .sentinel, .sentinel], laidTests := true, laidLooks := .later }
def DueRollsCardSaid : Prop := Claim7.holds Tryd.pinned (.plain (OpenSpec.ofChange dueRollsSpec)) dueRollsCard

/-- THE SECOND FORM's CARD OF 'arrearslaw07.DueLasts'. -/
def dueLastsUptoCard : Claim7 := { stood := { row := dueLastsUptoRow, standIns := [], harness := (true, "237c26d061cca438716161b3dcf60523070e5301d7cc11a629e1514c339d46ec"), looks := true }, kinds := [], alts := [], laidByText := true, laidKinds := [.data, .data, .data, .sentinel, .sentinel], laidTests := true, laidLooks := .later }
def DueLastsUptoCardSaid : Prop := Claim7.holds Tryd.pinned (.plain (OpenSpec.upto dueLastsSpec)) dueLastsUptoCard

/-- THE SECOND FORM's CARD OF 'arrearslaw07.DueRight'. -/
def dueRightUptoCard : Claim7 := { stood := { row := dueRightUptoRow, standIns := [], harness := (true, "237c26d061cca438716161b3dcf60523070e5301d7cc11a629e1514c339d46ec"), looks := true }, kinds := [], alts := [], laidByText := true, laidKinds := [.data, .data, .data, .sentinel, .sentinel], laidTests := true, laidLooks := .later }
def DueRightUptoCardSaid : Prop := Claim7.holds Tryd.pinned (.plain (OpenSpec.upto dueRightSpec)) dueRightUptoCard

/-- THE SECOND FORM's CARD OF 'arrearslaw07.DueCounts'. -/
def dueCountsUptoCard : Claim7 := { stood := { row := dueCountsUptoRow, standIns := [], harness := (true, "237c26d061cca438716161b3dcf60523070e5301d7cc11a629e1514c339d46ec"), looks := true }, kinds := [], alts := [], laidByText := true, laidKinds := [.data, .data, .data, .sentinel, .sentinel], laidTests := true, laidLooks := .later }
def DueCountsUptoCardSaid : Prop := Claim7.holds Tryd.pinned (.plain (OpenSpec.upto dueCountsSpec)) dueCountsUptoCard

/-- THE SECOND FORM's CARD OF 'arrearslaw07.DueOpens'. -/
def dueOpensUptoCard : Claim7 := { stood := { row := dueOpensUptoRow, standIns := [], harness := (true, "237c26d061cca438716161b3dcf60523070e5301d7cc11a629e1514c339d46ec"), looks := true }, kinds := [], alts := [], laidByText := true, laidKinds := [.data, .data, .data, .handle, .sentinel, .sentinel], laidTests := true, laidLooks := .later }
def DueOpensUptoCardSaid : Prop := Claim7.holds Tryd.pinned (.plain (OpenSpec.upto dueOpensSpec)) dueOpensUptoCard

/-- THE SECOND FORM's CARD OF 'arrearslaw07.DueNext'. -/
def dueNextUptoCard : Claim7 := { stood := { row := dueNextUptoRow, standIns := [], harness := (true, "237c26d061cca438716161b3dcf60523070e5301d7cc11a629e1514c339d46ec"), looks := true }, kinds := [], alts := [], laidByText := true, laidKinds := [.data, .data, .data, .handle, .sentinel, .sentinel], laidTests := true, laidLooks := .later }
def DueNextUptoCardSaid : Prop := Claim7.holds Tryd.pinned (.plain (OpenSpec.upto dueNextSpec)) dueNextUptoCard

/-- THE SECOND FORM's CARD OF 'arrearslaw07.DueRolls'. -/
def dueRollsUptoCard : Claim7 := { stood := { row := dueRollsUptoRow, standIns := [], harness := (true, "237c26d061cca438716161b3dcf60523070e5301d7cc11a629e1514c339d46ec"), looks := true }, kinds := [], alts := [], laidByText := true, laidKinds := [.data, .data, .data, .handle, .sentinel, .sentinel], laidTests := true, laidLooks := .later }
def DueRollsUptoCardSaid : Prop := Claim7.holds Tryd.pinned (.plain (OpenSpec.upto dueRollsSpec)) dueRollsUptoCard
end Rows
end Go.Proofs.YthokfepglahgpaaDoor
