/-
  NARROWER THAN 'FOR EVERY INPUT', by the rows' own cells (each row's printed sentence says how): WideScales: laid · WideNear: laid · WideBacks: laid · WideReckons: laid · WideSums: laid.
  DERIVED. THE GIVEN ROWS OF THIS SEAT. 5 by the template 'for every input the law returns true; each argument reads behind the call as it read before'; 0 by the template 'total and deterministic' (their statements: YtfpbibfoipbahaaDoorTotals.lean).
  GIVEN WITH THE SEED: the statements are not yours to turn. If you find one false, say at which input.
  Laid BY PROGRAM, IN A SANDBOX (cutbox-rows.mjs): the forced cells as the released guide's own fill.sh prints them over the translation 9358ddeae3a46a0c… (all of the seat's roots in one cut). By AI agents, Wed Nov 11 2026. No macro, syntax, notation, axiom, sorry.
-/
import Derived.Test.YtfpbibfoipbahaaDoorChecked
import GoSem.Claim
import GoSem.ClaimJoined
import GoSem.ClaimMapViews
import Derived.JoinedTies
import Derived.KernelRfl
namespace Go.Proofs.YtfpbibfoipbahaaDoor
/- THE CELL 'sum', in the pinned program and in every row, IS THE sha256 OF THE DUMP (.gsa) THAT YtfpbibfoipbahaaDoorProg.lean LOADS. Nothing in Lean hashes anything: it is a label: what it is worth is what the hold of that sum in a sandbox is worth. -/
noncomputable def Tryd.pinned : Pinned := { name := "ytfpbibfoipbahaadoor", sum := "9358ddeae3a46a0c6ab4feb931499db8d1c6ff6b766f0db70b348bf5c0f5200a", checked := Tryd.checked }
namespace Rows
def none {H : Type} : Left H := { results := [], args := [] }

/- WHAT THE LISTED PACKAGE-LEVEL VARIABLES READ AS WHEN THE CALL BEGINS. Each datum BY PROGRAM (the guide's laid-datum.mjs) off the statement by which the dump's own 'gosem.cut.vars' lays the variable. In a bare row this is a premise. The card (YtfpbibfoipbahaaDoorCards.lean) ties it to the program's text. -/
def laid_errors_errorType {H : Type} : DataW H := .iface "internal/reflectlite.rtype" (.agg [.ptr (.lit (.string [101, 114, 114, 111, 114]))])

/-- 'arrearslaw03.WideScales': WHATEVER THE INPUT: true; the input reads as it did. -/
def wideScalesSpec : ChangeSpec := { name := "wideScales", fn := fun _ => fun
  | [d1, d2, d3] => { results := [.lit (.bool true)], args := [d1, d2, d3] }
  | _ => none }
def wideScalesRow : OpenClaim := { program := "ytfpbibfoipbahaadoor", sum := "9358ddeae3a46a0c6ab4feb931499db8d1c6ff6b766f0db70b348bf5c0f5200a", func := "arrears/arrearslaw03.WideScales", spec := "wideScales", inPlace := ["internal/reflectlite.ValueOf", "(internal/reflectlite.Value).Type", "(internal/reflectlite.Value).IsNil", "internal/reflectlite.TypeOf", "(internal/reflectlite.Value).Elem", "(internal/reflectlite.Value).Set"], unfollowed := true, recurses := true, named := ["math/bits.divideError", "math/bits.overflowError", "errors.errorType"], apart := false, laid := [("errors.errorType", laid_errors_errorType)] }
def WideScalesSaid : Prop := wideScalesRow.holds Tryd.pinned (OpenSpec.ofChange wideScalesSpec)

/-- ITS FALSE NEIGHBOUR: 'it returns false'. Refute it at one input. -/
def wideScalesWrong : ChangeSpec := { name := "wideScales", fn := fun _ => fun
  | [d1, d2, d3] => { results := [.lit (.bool false)], args := [d1, d2, d3] }
  | _ => none }
def WideScalesWrongFalsely : Prop := wideScalesRow.holds Tryd.pinned (OpenSpec.ofChange wideScalesWrong)

/-- 'arrearslaw03.WideNear': WHATEVER THE INPUT: true; the input reads as it did. -/
def wideNearSpec : ChangeSpec := { name := "wideNear", fn := fun _ => fun
  | [d1, d2, d3] => { results := [.lit (.bool true)], args := [d1, d2, d3] }
  | _ => none }
def wideNearRow : OpenClaim := { program := "ytfpbibfoipbahaadoor", sum := "9358ddeae3a46a0c6ab4feb931499db8d1c6ff6b766f0db70b348bf5c0f5200a", func := "arrears/arrearslaw03.WideNear", spec := "wideNear", inPlace := ["internal/reflectlite.ValueOf", "(internal/reflectlite.Value).Type", "(internal/reflectlite.Value).IsNil", "internal/reflectlite.TypeOf", "(internal/reflectlite.Value).Elem", "(internal/reflectlite.Value).Set"], unfollowed := true, recurses := true, named := ["math/bits.divideError", "math/bits.overflowError", "errors.errorType"], apart := false, laid := [("errors.errorType", laid_errors_errorType)] }
def WideNearSaid : Prop := wideNearRow.holds Tryd.pinned (OpenSpec.ofChange wideNearSpec)

/-- ITS FALSE NEIGHBOUR: 'it returns false'. Refute it at one input. -/
def wideNearWrong : ChangeSpec := { name := "wideNear", fn := fun _ => fun
  | [d1, d2, d3] => { results := [.lit (.bool false)], args := [d1, d2, d3] }
  | _ => none }
def WideNearWrongFalsely : Prop := wideNearRow.holds Tryd.pinned (OpenSpec.ofChange wideNearWrong)

/-- 'arrearslaw03.WideBacks': WHATEVER THE INPUT: true; the input reads as it did. -/
def wideBacksSpec : ChangeSpec := { name := "wideBacks", fn := fun _ => fun
  | [d1, d2, d3] => { results := [.lit (.bool true)], args := [d1, d2, d3] }
  | _ => none }
def wideBacksRow : OpenClaim := { program := "ytfpbibfoipbahaadoor", sum := "9358ddeae3a46a0c6ab4feb931499db8d1c6ff6b766f0db70b348bf5c0f5200a", func := "arrears/arrearslaw03.WideBacks", spec := "wideBacks", inPlace := ["internal/reflectlite.ValueOf", "(internal/reflectlite.Value).Type", "(internal/reflectlite.Value).IsNil", "internal/reflectlite.TypeOf", "(internal/reflectlite.Value).Elem", "(internal/reflectlite.Value).Set", "math/bits.Add64"], unfollowed := true, recurses := true, named := ["math/bits.divideError", "math/bits.overflowError", "errors.errorType"], apart := false, laid := [("errors.errorType", laid_errors_errorType)] }
def WideBacksSaid : Prop := wideBacksRow.holds Tryd.pinned (OpenSpec.ofChange wideBacksSpec)

/-- ITS FALSE NEIGHBOUR: 'it returns false'. Refute it at one input. -/
def wideBacksWrong : ChangeSpec := { name := "wideBacks", fn := fun _ => fun
  | [d1, d2, d3] => { results := [.lit (.bool false)], args := [d1, d2, d3] }
  | _ => none }
def WideBacksWrongFalsely : Prop := wideBacksRow.holds Tryd.pinned (OpenSpec.ofChange wideBacksWrong)

/-- 'arrearslaw03.WideReckons': WHATEVER THE INPUT: true; the input reads as it did. -/
def wideReckonsSpec : ChangeSpec := { name := "wideReckons", fn := fun _ => fun
  | [d1, d2, d3, d4, d5] => { results := [.lit (.bool true)], args := [d1, d2, d3, d4, d5] }
  | _ => none }
def wideReckonsRow : OpenClaim := { program := "ytfpbibfoipbahaadoor", sum := "9358ddeae3a46a0c6ab4feb931499db8d1c6ff6b766f0db70b348bf5c0f5200a", func := "arrears/arrearslaw03.WideReckons", spec := "wideReckons", inPlace := ["math/bits.Add64", "internal/reflectlite.ValueOf", "(internal/reflectlite.Value).Type", "(internal/reflectlite.Value).IsNil", "internal/reflectlite.TypeOf", "(internal/reflectlite.Value).Elem", "(internal/reflectlite.Value).Set", "math/bits.Sub64"], unfollowed := true, recurses := true, named := ["math/bits.divideError", "math/bits.overflowError", "errors.errorType"], apart := false, laid := [("errors.errorType", laid_errors_errorType)] }
def WideReckonsSaid : Prop := wideReckonsRow.holds Tryd.pinned (OpenSpec.ofChange wideReckonsSpec)

/-- ITS FALSE NEIGHBOUR: 'it returns false'. Refute it at one input. -/
def wideReckonsWrong : ChangeSpec := { name := "wideReckons", fn := fun _ => fun
  | [d1, d2, d3, d4, d5] => { results := [.lit (.bool false)], args := [d1, d2, d3, d4, d5] }
  | _ => none }
def WideReckonsWrongFalsely : Prop := wideReckonsRow.holds Tryd.pinned (OpenSpec.ofChange wideReckonsWrong)

/-- 'arrearslaw03.WideSums': WHATEVER THE INPUT: true; the input reads as it did. -/
def wideSumsSpec : ChangeSpec := { name := "wideSums", fn := fun _ => fun
  | [d1, d2] => { results := [.lit (.bool true)], args := [d1, d2] }
  | _ => none }
def wideSumsRow : OpenClaim := { program := "ytfpbibfoipbahaadoor", sum := "9358ddeae3a46a0c6ab4feb931499db8d1c6ff6b766f0db70b348bf5c0f5200a", func := "arrears/arrearslaw03.WideSums", spec := "wideSums", inPlace := ["math/bits.Add64", "internal/reflectlite.ValueOf", "(internal/reflectlite.Value).Type", "(internal/reflectlite.Value).IsNil", "internal/reflectlite.TypeOf", "(internal/reflectlite.Value).Elem", "(internal/reflectlite.Value).Set", "math/bits.Sub64"], unfollowed := true, recurses := true, named := ["math/bits.divideError", "math/bits.overflowError", "errors.errorType"], apart := false, laid := [("errors.errorType", laid_errors_errorType)] }
def WideSumsSaid : Prop := wideSumsRow.holds Tryd.pinned (OpenSpec.ofChange wideSumsSpec)

/-- ITS FALSE NEIGHBOUR: 'it returns false'. Refute it at one input. -/
def wideSumsWrong : ChangeSpec := { name := "wideSums", fn := fun _ => fun
  | [d1, d2] => { results := [.lit (.bool false)], args := [d1, d2] }
  | _ => none }
def WideSumsWrongFalsely : Prop := wideSumsRow.holds Tryd.pinned (OpenSpec.ofChange wideSumsWrong)

/- THE SECOND FORM. 'bulk': how many values and letters a reading holds, each counted each time it is reached (what is shared counts as often as it is met; a slice's spare places count too). A statement '..UptoSaid' is the law's where the arguments, and the package variables that the reading takes, are together of bulk at most 1048576: NARROWER than '..Said'. Prove '..Said' where nothing that the law and all that it calls make is longer than what came in: it says more and counts as full. Else prove '..UptoSaid'. A law counts once. -/
mutual
def uptoBulk {H : Type} : DataW H → Nat
  | .lit (.string bytes) => bytes.length + 1
  | .lit _ => 1
  | .nil => 1
  | .ptr d => uptoBulk d + 1
  | .slice elems spare => uptoBulkAll elems + uptoBulkAll spare + 1
  | .agg parts => uptoBulkAll parts + 1
  | .iface _ d => uptoBulk d + 1
  | .map entries => uptoBulkEntries entries + 1
  | .held _ => 1
def uptoBulkAll {H : Type} : List (DataW H) → Nat
  | [] => 0
  | d :: r => uptoBulk d + uptoBulkAll r
def uptoBulkEntries {H : Type} : List (Lit × DataW H) → Nat
  | [] => 0
  | x :: r => uptoBulkEntry x + uptoBulkEntries r
def uptoBulkEntry {H : Type} : Lit × DataW H → Nat
  | (.string bytes, d) => bytes.length + uptoBulk d + 1
  | (_, d) => uptoBulk d + 1
 end
def uptoSmall : (H : Type) → List (DataW H) → Bool := fun _ ds => decide (uptoBulkAll ds ≤ 1048576)
def OpenSpec.upto (s : _root_.Go.ChangeSpec) : _root_.Go.OpenSpec := { _root_.Go.OpenSpec.ofChange s with cond := some uptoSmall }

/-- 'arrearslaw03.WideScales', WHERE WHAT IT READS IS OF BULK AT MOST 1048576: true; the input reads as it did. -/
def wideScalesUptoRow : OpenClaim := { program := "ytfpbibfoipbahaadoor", sum := "9358ddeae3a46a0c6ab4feb931499db8d1c6ff6b766f0db70b348bf5c0f5200a", func := "arrears/arrearslaw03.WideScales", spec := "wideScales", inPlace := ["internal/reflectlite.ValueOf", "(internal/reflectlite.Value).Type", "(internal/reflectlite.Value).IsNil", "internal/reflectlite.TypeOf", "(internal/reflectlite.Value).Elem", "(internal/reflectlite.Value).Set"], unfollowed := true, recurses := true, named := ["math/bits.divideError", "math/bits.overflowError", "errors.errorType"], apart := false, laid := [("errors.errorType", laid_errors_errorType)], narrowed := true }
def WideScalesUptoSaid : Prop := wideScalesUptoRow.holds Tryd.pinned (OpenSpec.upto wideScalesSpec)

/-- 'arrearslaw03.WideNear', WHERE WHAT IT READS IS OF BULK AT MOST 1048576: true; the input reads as it did. -/
def wideNearUptoRow : OpenClaim := { program := "ytfpbibfoipbahaadoor", sum := "9358ddeae3a46a0c6ab4feb931499db8d1c6ff6b766f0db70b348bf5c0f5200a", func := "arrears/arrearslaw03.WideNear", spec := "wideNear", inPlace := ["internal/reflectlite.ValueOf", "(internal/reflectlite.Value).Type", "(internal/reflectlite.Value).IsNil", "internal/reflectlite.TypeOf", "(internal/reflectlite.Value).Elem", "(internal/reflectlite.Value).Set"], unfollowed := true, recurses := true, named := ["math/bits.divideError", "math/bits.overflowError", "errors.errorType"], apart := false, laid := [("errors.errorType", laid_errors_errorType)], narrowed := true }
def WideNearUptoSaid : Prop := wideNearUptoRow.holds Tryd.pinned (OpenSpec.upto wideNearSpec)

/-- 'arrearslaw03.WideBacks', WHERE WHAT IT READS IS OF BULK AT MOST 1048576: true; the input reads as it did. -/
def wideBacksUptoRow : OpenClaim := { program := "ytfpbibfoipbahaadoor", sum := "9358ddeae3a46a0c6ab4feb931499db8d1c6ff6b766f0db70b348bf5c0f5200a", func := "arrears/arrearslaw03.WideBacks", spec := "wideBacks", inPlace := ["internal/reflectlite.ValueOf", "(internal/reflectlite.Value).Type", "(internal/reflectlite.Value).IsNil", "internal/reflectlite.TypeOf", "(internal/reflectlite.Value).Elem", "(internal/reflectlite.Value).Set", "math/bits.Add64"], unfollowed := true, recurses := true, named := ["math/bits.divideError", "math/bits.overflowError", "errors.errorType"], apart := false, laid := [("errors.errorType", laid_errors_errorType)], narrowed := true }
def WideBacksUptoSaid : Prop := wideBacksUptoRow.holds Tryd.pinned (OpenSpec.upto wideBacksSpec)

/-- 'arrearslaw03.WideReckons', WHERE WHAT IT READS IS OF BULK AT MOST 1048576: true; the input reads as it did. -/
def wideReckonsUptoRow : OpenClaim := { program := "ytfpbibfoipbahaadoor", sum := "9358ddeae3a46a0c6ab4feb931499db8d1c6ff6b766f0db70b348bf5c0f5200a", func := "arrears/arrearslaw03.WideReckons", spec := "wideReckons", inPlace := ["math/bits.Add64", "internal/reflectlite.ValueOf", "(internal/reflectlite.Value).Type", "(internal/reflectlite.Value).IsNil", "internal/reflectlite.TypeOf", "(internal/reflectlite.Value).Elem", "(internal/reflectlite.Value).Set", "math/bits.Sub64"], unfollowed := true, recurses := true, named := ["math/bits.divideError", "math/bits.overflowError", "errors.errorType"], apart := false, laid := [("errors.errorType", laid_errors_errorType)], narrowed := true }
def WideReckonsUptoSaid : Prop := wideReckonsUptoRow.holds Tryd.pinned (OpenSpec.upto wideReckonsSpec)

/-- 'arrearslaw03.WideSums', WHERE WHAT IT READS IS OF BULK AT MOST 1048576: true; the input reads as it did. -/
def wideSumsUptoRow : OpenClaim := { program := "ytfpbibfoipbahaadoor", sum := "9358ddeae3a46a0c6ab4feb931499db8d1c6ff6b766f0db70b348bf5c0f5200a", func := "arrears/arrearslaw03.WideSums", spec := "wideSums", inPlace := ["math/bits.Add64", "internal/reflectlite.ValueOf", "(internal/reflectlite.Value).Type", "(internal/reflectlite.Value).IsNil", "internal/reflectlite.TypeOf", "(internal/reflectlite.Value).Elem", "(internal/reflectlite.Value).Set", "math/bits.Sub64"], unfollowed := true, recurses := true, named := ["math/bits.divideError", "math/bits.overflowError", "errors.errorType"], apart := false, laid := [("errors.errorType", laid_errors_errorType)], narrowed := true }
def WideSumsUptoSaid : Prop := wideSumsUptoRow.holds Tryd.pinned (OpenSpec.upto wideSumsSpec)

end Rows
end Go.Proofs.YtfpbibfoipbahaaDoor
