/-
  DERIVED. GIVEN WITH THE SEED: THE CARDS: each row of YtbgjeelbbmcpeaaDoorRows.lean that lists a variable, with what it lists TIED to the program's text (the seventh form; the later family's looks); each row that meets fmt, with fmt's text TOLD by the authors' own Lean function (tested against real Go, not proved from fmt's source: count such statements apart). THE CARD IS WHAT COUNTS. Prove the row's statement (the work); the ties are given (YtbgjeelbbmcpeaaDoorTie.lean); close each card by the builder's one call (the guide's Derived/Test/ToyasCard.lean, 'card_holds'). Laid BY PROGRAM, IN A SANDBOX (cutbox-door.mjs). By AI agents, Wed Nov 11 2026. No macro, syntax, notation, axiom, sorry.
-/
import Derived.Test.YtbgjeelbbmcpeaaDoorRows
import GoSem.ClaimSeven
namespace Go.Proofs.YtbgjeelbbmcpeaaDoor
namespace Rows

/-- THE TIED CARD OF 'arrearslaw05.DateMonths'. -/
def dateMonthsCard : Claim7 := { stood := { row := dateMonthsRow, standIns := [], harness := (true, "52b405176e2afe20ca67ee73cdc90edbb5c2f75e3f46a6cbbb8c3542211414df"), looks := true }, kinds := [], alts := [], laidByText := true, laidKinds := [.handle], laidTests := true, laidLooks := .later }
def DateMonthsCardSaid : Prop := Claim7.holds Tryd.pinned (.plain (OpenSpec.ofChange dateMonthsSpec)) dateMonthsCard

/-- THE TIED CARD OF 'arrearslaw05.DateBacks'. -/
def dateBacksCard : Claim7 := { stood := { row := dateBacksRow, standIns := [], harness := (true, "52b405176e2afe20ca67ee73cdc90edbb5c2f75e3f46a6cbbb8c3542211414df"), looks := true }, kinds := [], alts := [], laidByText := true, laidKinds := [.handle], laidTests := true, laidLooks := .later }
def DateBacksCardSaid : Prop := Claim7.holds Tryd.pinned (.plain (OpenSpec.ofChange dateBacksSpec)) dateBacksCard

/-- THE TIED CARD OF 'arrearslaw05.DateOrders'. -/
def dateOrdersCard : Claim7 := { stood := { row := dateOrdersRow, standIns := [], harness := (true, "52b405176e2afe20ca67ee73cdc90edbb5c2f75e3f46a6cbbb8c3542211414df"), looks := true }, kinds := [], alts := [], laidByText := true, laidKinds := [.data, .data, .data], laidTests := true, laidLooks := .later }
def DateOrdersCardSaid : Prop := Claim7.holds Tryd.pinned (.plain (OpenSpec.ofChange dateOrdersSpec)) dateOrdersCard

/-- THE TIED CARD OF 'arrearslaw05.DateReads'. -/
def dateReadsCard : Claim7 := { stood := { row := dateReadsRow, standIns := [], harness := (true, "52b405176e2afe20ca67ee73cdc90edbb5c2f75e3f46a6cbbb8c3542211414df"), looks := true }, kinds := [], alts := [], laidByText := true, laidKinds := [.data, .data, .data, .handle, .sentinel, .sentinel], laidTests := true, laidLooks := .later }
def DateReadsCardSaid : Prop := Claim7.holds Tryd.pinned (.plain (OpenSpec.ofChange dateReadsSpec)) dateReadsCard

/-- THE TIED CARD OF 'arrearslaw05.DateTurns'. -/
def dateTurnsCard : Claim7 := { stood := { row := dateTurnsRow, standIns := [], harness := (true, "52b405176e2afe20ca67ee73cdc90edbb5c2f75e3f46a6cbbb8c3542211414df"), looks := true }, kinds := [], alts := [], laidByText := true, laidKinds := [.data, .data, .data, .handle, .sentinel, .sentinel], laidTests := true, laidLooks := .later }
def DateTurnsCardSaid : Prop := Claim7.holds Tryd.pinned (.plain (OpenSpec.ofChange dateTurnsSpec)) dateTurnsCard

/-- THE SECOND FORM's CARD OF 'arrearslaw05.DateMonths'. -/
def dateMonthsUptoCard : Claim7 := { stood := { row := dateMonthsUptoRow, standIns := [], harness := (true, "52b405176e2afe20ca67ee73cdc90edbb5c2f75e3f46a6cbbb8c3542211414df"), looks := true }, kinds := [], alts := [], laidByText := true, laidKinds := [.handle], laidTests := true, laidLooks := .later }
def DateMonthsUptoCardSaid : Prop := Claim7.holds Tryd.pinned (.plain (OpenSpec.upto dateMonthsSpec)) dateMonthsUptoCard

/-- THE SECOND FORM's CARD OF 'arrearslaw05.DateBacks'. -/
def dateBacksUptoCard : Claim7 := { stood := { row := dateBacksUptoRow, standIns := [], harness := (true, "52b405176e2afe20ca67ee73cdc90edbb5c2f75e3f46a6cbbb8c3542211414df"), looks := true }, kinds := [], alts := [], laidByText := true, laidKinds := [.handle], laidTests := true, laidLooks := .later }
def DateBacksUptoCardSaid : Prop := Claim7.holds Tryd.pinned (.plain (OpenSpec.upto dateBacksSpec)) dateBacksUptoCard

/-- THE SECOND FORM's CARD OF 'arrearslaw05.DateOrders'. -/
def dateOrdersUptoCard : Claim7 := { stood := { row := dateOrdersUptoRow, standIns := [], harness := (true, "52b405176e2afe20ca67ee73cdc90edbb5c2f75e3f46a6cbbb8c3542211414df"), looks := true }, kinds := [], alts := [], laidByText := true, laidKinds := [.data, .data, .data], laidTests := true, laidLooks := .later }
def DateOrdersUptoCardSaid : Prop := Claim7.holds Tryd.pinned (.plain (OpenSpec.upto dateOrdersSpec)) dateOrdersUptoCard

/-- THE SECOND FORM's CARD OF 'arrearslaw05.DateReads'. -/
def dateReadsUptoCard : Claim7 := { stood := { row := dateReadsUptoRow, standIns := [], harness := (true, "52b405176e2afe20ca67ee73cdc90edbb5c2f75e3f46a6cbbb8c3542211414df"), looks := true }, kinds := [], alts := [], laidByText := true, laidKinds := [.data, .data, .data, .handle, .sentinel, .sentinel], laidTests := true, laidLooks := .later }
def DateReadsUptoCardSaid : Prop := Claim7.holds Tryd.pinned (.plain (OpenSpec.upto dateReadsSpec)) dateReadsUptoCard

/-- THE SECOND FORM's CARD OF 'arrearslaw05.DateTurns'. -/
def dateTurnsUptoCard : Claim7 := { stood := { row := dateTurnsUptoRow, standIns := [], harness := (true, "52b405176e2afe20ca67ee73cdc90edbb5c2f75e3f46a6cbbb8c3542211414df"), looks := true }, kinds := [], alts := [], laidByText := true, laidKinds := [.data, .data, .data, .handle, .sentinel, .sentinel], laidTests := true, laidLooks := .later }
def DateTurnsUptoCardSaid : Prop := Claim7.holds Tryd.pinned (.plain (OpenSpec.upto dateTurnsSpec)) dateTurnsUptoCard
end Rows
end Go.Proofs.YtbgjeelbbmcpeaaDoor
