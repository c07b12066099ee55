/-
  DERIVED. GIVEN WITH THE SEED: THE CARDS: each row of YtdkdjikfhclmaaaDoorRows.lean that lists a variable, with what it lists TIED to the program's text (the seventh form; the later family's looks); each row that meets fmt, with fmt's text TOLD by the authors' own Lean function (tested against real Go, not proved from fmt's source: count such statements apart). THE CARD IS WHAT COUNTS. Prove the row's statement (the work); the ties are given (YtdkdjikfhclmaaaDoorTie.lean); close each card by the builder's one call (the guide's Derived/Test/ToyasCard.lean, 'card_holds'). Laid BY PROGRAM, IN A SANDBOX (cutbox-door.mjs). By AI agents, Wed Nov 11 2026. No macro, syntax, notation, axiom, sorry.
-/
import Derived.Test.YtdkdjikfhclmaaaDoorRows
import GoSem.ClaimSeven
namespace Go.Proofs.YtdkdjikfhclmaaaDoor
namespace Rows

/-- THE TIED CARD OF 'arrearslaw06.SpanYears'. -/
def spanYearsCard : Claim7 := { stood := { row := spanYearsRow, standIns := [], harness := (true, "19b37473ce34b4829798da057cdb549c26e79673241b53a1c31e890f3a851bb7"), looks := true }, kinds := [], alts := [], laidByText := true, laidKinds := [.data, .data, .data, .sentinel, .sentinel], laidTests := true, laidLooks := .later }
def SpanYearsCardSaid : Prop := Claim7.holds Tryd.pinned (.plain (OpenSpec.ofChange spanYearsSpec)) spanYearsCard

/-- THE TIED CARD OF 'arrearslaw06.SpanAdds'. -/
def spanAddsCard : Claim7 := { stood := { row := spanAddsRow, standIns := [], harness := (true, "19b37473ce34b4829798da057cdb549c26e79673241b53a1c31e890f3a851bb7"), looks := true }, kinds := [], alts := [], laidByText := true, laidKinds := [.data, .data, .data, .sentinel, .sentinel], laidTests := true, laidLooks := .later }
def SpanAddsCardSaid : Prop := Claim7.holds Tryd.pinned (.plain (OpenSpec.ofChange spanAddsSpec)) spanAddsCard

/-- THE TIED CARD OF 'arrearslaw06.SpanNames'. -/
def spanNamesCard : Claim7 := { stood := { row := spanNamesRow, standIns := [], harness := (true, "19b37473ce34b4829798da057cdb549c26e79673241b53a1c31e890f3a851bb7"), looks := true }, kinds := [], alts := [], laidByText := true, laidKinds := [.data, .data, .data, .sentinel, .sentinel], laidTests := true, laidLooks := .later }
def SpanNamesCardSaid : Prop := Claim7.holds Tryd.pinned (.plain (OpenSpec.ofChange spanNamesSpec)) spanNamesCard

/-- THE TIED CARD OF 'arrearslaw06.SpanCounts'. -/
def spanCountsCard : Claim7 := { stood := { row := spanCountsRow, standIns := [], harness := (true, "19b37473ce34b4829798da057cdb549c26e79673241b53a1c31e890f3a851bb7"), looks := true }, kinds := [], alts := [], laidByText := true, laidKinds := [.data, .data, .data, .handle, .sentinel, .sentinel], laidTests := true, laidLooks := .later }
def SpanCountsCardSaid : Prop := Claim7.holds Tryd.pinned (.plain (OpenSpec.ofChange spanCountsSpec)) spanCountsCard

/-- THE TIED CARD OF 'arrearslaw06.SpanOnes'. -/
def spanOnesCard : Claim7 := { stood := { row := spanOnesRow, standIns := [], harness := (true, "19b37473ce34b4829798da057cdb549c26e79673241b53a1c31e890f3a851bb7"), looks := true }, kinds := [], alts := [], laidByText := true, laidKinds := [.data, .data, .data, .handle, .sentinel, .sentinel], laidTests := true, laidLooks := .later }
def SpanOnesCardSaid : Prop := Claim7.holds Tryd.pinned (.plain (OpenSpec.ofChange spanOnesSpec)) spanOnesCard

/-- THE SECOND FORM's CARD OF 'arrearslaw06.SpanYears'. -/
def spanYearsUptoCard : Claim7 := { stood := { row := spanYearsUptoRow, standIns := [], harness := (true, "19b37473ce34b4829798da057cdb549c26e79673241b53a1c31e890f3a851bb7"), looks := true }, kinds := [], alts := [], laidByText := true, laidKinds := [.data, .data, .data, .sentinel, .sentinel], laidTests := true, laidLooks := .later }
def SpanYearsUptoCardSaid : Prop := Claim7.holds Tryd.pinned (.plain (OpenSpec.upto spanYearsSpec)) spanYearsUptoCard

/-- THE SECOND FORM's CARD OF 'arrearslaw06.SpanAdds'. -/
def spanAddsUptoCard : Claim7 := { stood := { row := spanAddsUptoRow, standIns := [], harness := (true, "19b37473ce34b4829798da057cdb549c26e79673241b53a1c31e890f3a851bb7"), looks := true }, kinds := [], alts := [], laidByText := true, laidKinds := [.data, .data, .data, .sentinel, .sentinel], laidTests := true, laidLooks := .later }
def SpanAddsUptoCardSaid : Prop := Claim7.holds Tryd.pinned (.plain (OpenSpec.upto spanAddsSpec)) spanAddsUptoCard

/-- THE SECOND FORM's CARD OF 'arrearslaw06.SpanNames'. -/
def spanNamesUptoCard : Claim7 := { stood := { row := spanNamesUptoRow, standIns := [], harness := (true, "19b37473ce34b4829798da057cdb549c26e79673241b53a1c31e890f3a851bb7"), looks := true }, kinds := [], alts := [], laidByText := true, laidKinds := [.data, .data, .data, .sentinel, .sentinel], laidTests := true, laidLooks := .later }
def SpanNamesUptoCardSaid : Prop := Claim7.holds Tryd.pinned (.plain (OpenSpec.upto spanNamesSpec)) spanNamesUptoCard

/-- THE SECOND FORM's CARD OF 'arrearslaw06.SpanCounts'. -/
def spanCountsUptoCard : Claim7 := { stood := { row := spanCountsUptoRow, standIns := [], harness := (true, "19b37473ce34b4829798da057cdb549c26e79673241b53a1c31e890f3a851bb7"), looks := true }, kinds := [], alts := [], laidByText := true, laidKinds := [.data, .data, .data, .handle, .sentinel, .sentinel], laidTests := true, laidLooks := .later }
def SpanCountsUptoCardSaid : Prop := Claim7.holds Tryd.pinned (.plain (OpenSpec.upto spanCountsSpec)) spanCountsUptoCard

/-- THE SECOND FORM's CARD OF 'arrearslaw06.SpanOnes'. -/
def spanOnesUptoCard : Claim7 := { stood := { row := spanOnesUptoRow, standIns := [], harness := (true, "19b37473ce34b4829798da057cdb549c26e79673241b53a1c31e890f3a851bb7"), looks := true }, kinds := [], alts := [], laidByText := true, laidKinds := [.data, .data, .data, .handle, .sentinel, .sentinel], laidTests := true, laidLooks := .later }
def SpanOnesUptoCardSaid : Prop := Claim7.holds Tryd.pinned (.plain (OpenSpec.upto spanOnesSpec)) spanOnesUptoCard
end Rows
end Go.Proofs.YtdkdjikfhclmaaaDoor
