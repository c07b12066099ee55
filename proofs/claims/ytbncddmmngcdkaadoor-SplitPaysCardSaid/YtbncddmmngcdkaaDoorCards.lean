/-
  DERIVED. GIVEN WITH THE SEED: THE CARDS: each row of YtbncddmmngcdkaaDoorRows.lean that lists a variable, with what it lists TIED to the program's text (the seventh form; the later family's looks); each row that meets fmt, with fmt's text TOLD by the authors' own Lean function (tested against real Go, not proved from fmt's source: count such statements apart). THE CARD IS WHAT COUNTS. Prove the row's statement (the work); the ties are given (YtbncddmmngcdkaaDoorTie.lean); close each card by the builder's one call (the guide's Derived/Test/ToyasCard.lean, 'card_holds'). Laid BY PROGRAM, IN A SANDBOX (cutbox-door.mjs). By AI agents, Wed Nov 11 2026. No macro, syntax, notation, axiom, sorry.
-/
import Derived.Test.YtbncddmmngcdkaaDoorRows
import GoSem.ClaimSeven
namespace Go.Proofs.YtbncddmmngcdkaaDoor
namespace Rows

/-- THE TIED CARD OF 'arrearslaw11.SplitPays'. -/
def splitPaysCard : Claim7 := { stood := { row := splitPaysRow, standIns := [], harness := (true, "3eedba9d7b3e7c8ac36832772efd30ba29923191eba8e76848d65738653ca50d"), looks := true }, kinds := [], alts := [], laidByText := true, laidKinds := [.handle], laidTests := true, laidLooks := .later }
def SplitPaysCardSaid : Prop := Claim7.holds Tryd.pinned (.plain (OpenSpec.ofChange splitPaysSpec)) splitPaysCard

/-- THE TIED CARD OF 'arrearslaw11.SplitAdds'. -/
def splitAddsCard : Claim7 := { stood := { row := splitAddsRow, standIns := [], harness := (true, "3eedba9d7b3e7c8ac36832772efd30ba29923191eba8e76848d65738653ca50d"), looks := true }, kinds := [], alts := [], laidByText := true, laidKinds := [.handle], laidTests := true, laidLooks := .later }
def SplitAddsCardSaid : Prop := Claim7.holds Tryd.pinned (.plain (OpenSpec.ofChange splitAddsSpec)) splitAddsCard

/-- THE SECOND FORM's CARD OF 'arrearslaw11.SplitPays'. -/
def splitPaysUptoCard : Claim7 := { stood := { row := splitPaysUptoRow, standIns := [], harness := (true, "3eedba9d7b3e7c8ac36832772efd30ba29923191eba8e76848d65738653ca50d"), looks := true }, kinds := [], alts := [], laidByText := true, laidKinds := [.handle], laidTests := true, laidLooks := .later }
def SplitPaysUptoCardSaid : Prop := Claim7.holds Tryd.pinned (.plain (OpenSpec.upto splitPaysSpec)) splitPaysUptoCard

/-- THE SECOND FORM's CARD OF 'arrearslaw11.SplitAdds'. -/
def splitAddsUptoCard : Claim7 := { stood := { row := splitAddsUptoRow, standIns := [], harness := (true, "3eedba9d7b3e7c8ac36832772efd30ba29923191eba8e76848d65738653ca50d"), looks := true }, kinds := [], alts := [], laidByText := true, laidKinds := [.handle], laidTests := true, laidLooks := .later }
def SplitAddsUptoCardSaid : Prop := Claim7.holds Tryd.pinned (.plain (OpenSpec.upto splitAddsSpec)) splitAddsUptoCard
end Rows
end Go.Proofs.YtbncddmmngcdkaaDoor
