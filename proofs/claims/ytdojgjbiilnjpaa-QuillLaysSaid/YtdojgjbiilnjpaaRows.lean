/-
  No cell of these rows narrows 'for every input' (looked for: loops, veiled, ifaces, maps, wideKeys, modest, calm, conditions, laid).
  DERIVED. THE GIVEN ROWS OF THIS SEAT. 4 by the template 'for every input the law returns true; each argument reads behind the call as it read before'; 0 by the template 'total and deterministic' (their statements: YtdojgjbiilnjpaaTotals.lean).
  GIVEN WITH THE SEED: the statements are not yours to turn. If you find one false, say at which input.
  Laid BY PROGRAM, IN A SANDBOX (cutbox-rows.mjs): the forced cells as the released guide's own fill.sh prints them over the translation 0f482fea150a70c9… (all of the seat's roots in one cut). By AI agents, Wed Nov 11 2026. No macro, syntax, notation, axiom, sorry.
-/
import Derived.Test.YtdojgjbiilnjpaaChecked
import GoSem.Claim
import GoSem.ClaimJoined
import GoSem.ClaimMapViews
import Derived.JoinedTies
import Derived.KernelRfl
namespace Go.Proofs.Ytdojgjbiilnjpaa
/- THE CELL 'sum', in the pinned program and in every row, IS THE sha256 OF THE DUMP (.gsa) THAT YtdojgjbiilnjpaaProg.lean LOADS. Nothing in Lean hashes anything: it is a label: what it is worth is what the hold of that sum in a sandbox is worth. -/
noncomputable def Try.pinned : Pinned := { name := "ytdojgjbiilnjpaa", sum := "0f482fea150a70c99c3ae30d7f75c19b00f3349236fc65572f35b13f22263d2d", checked := Try.checked }
namespace Rows
def none {H : Type} : Left H := { results := [], args := [] }

/-- 'arrearslaw08.QuillOrders': WHATEVER THE INPUT: true; the input reads as it did. -/
def quillOrdersSpec : ChangeSpec := { name := "quillOrders", fn := fun _ => fun
  | [d1, d2, d3] => { results := [.lit (.bool true)], args := [d1, d2, d3] }
  | _ => none }
def quillOrdersRow : OpenClaim := { program := "ytdojgjbiilnjpaa", sum := "0f482fea150a70c99c3ae30d7f75c19b00f3349236fc65572f35b13f22263d2d", func := "arrears/arrearslaw08.QuillOrders", spec := "quillOrders", apart := false }
def QuillOrdersSaid : Prop := quillOrdersRow.holds Try.pinned (OpenSpec.ofChange quillOrdersSpec)

/-- ITS FALSE NEIGHBOUR: 'it returns false'. Refute it at one input. -/
def quillOrdersWrong : ChangeSpec := { name := "quillOrders", fn := fun _ => fun
  | [d1, d2, d3] => { results := [.lit (.bool false)], args := [d1, d2, d3] }
  | _ => none }
def QuillOrdersWrongFalsely : Prop := quillOrdersRow.holds Try.pinned (OpenSpec.ofChange quillOrdersWrong)

/-- 'arrearslaw08.QuillParts': WHATEVER THE INPUT: true; the input reads as it did. -/
def quillPartsSpec : ChangeSpec := { name := "quillParts", fn := fun _ => fun
  | [d1, d2, d3, d4] => { results := [.lit (.bool true)], args := [d1, d2, d3, d4] }
  | _ => none }
def quillPartsRow : OpenClaim := { program := "ytdojgjbiilnjpaa", sum := "0f482fea150a70c99c3ae30d7f75c19b00f3349236fc65572f35b13f22263d2d", func := "arrears/arrearslaw08.QuillParts", spec := "quillParts", apart := false }
def QuillPartsSaid : Prop := quillPartsRow.holds Try.pinned (OpenSpec.ofChange quillPartsSpec)

/-- ITS FALSE NEIGHBOUR: 'it returns false'. Refute it at one input. -/
def quillPartsWrong : ChangeSpec := { name := "quillParts", fn := fun _ => fun
  | [d1, d2, d3, d4] => { results := [.lit (.bool false)], args := [d1, d2, d3, d4] }
  | _ => none }
def QuillPartsWrongFalsely : Prop := quillPartsRow.holds Try.pinned (OpenSpec.ofChange quillPartsWrong)

/-- 'arrearslaw08.QuillOne': WHATEVER THE INPUT: true; the input reads as it did. -/
def quillOneSpec : ChangeSpec := { name := "quillOne", fn := fun _ => fun
  | [d1, d2] => { results := [.lit (.bool true)], args := [d1, d2] }
  | _ => none }
def quillOneRow : OpenClaim := { program := "ytdojgjbiilnjpaa", sum := "0f482fea150a70c99c3ae30d7f75c19b00f3349236fc65572f35b13f22263d2d", func := "arrears/arrearslaw08.QuillOne", spec := "quillOne", apart := false }
def QuillOneSaid : Prop := quillOneRow.holds Try.pinned (OpenSpec.ofChange quillOneSpec)

/-- ITS FALSE NEIGHBOUR: 'it returns false'. Refute it at one input. -/
def quillOneWrong : ChangeSpec := { name := "quillOne", fn := fun _ => fun
  | [d1, d2] => { results := [.lit (.bool false)], args := [d1, d2] }
  | _ => none }
def QuillOneWrongFalsely : Prop := quillOneRow.holds Try.pinned (OpenSpec.ofChange quillOneWrong)

/-- 'arrearslaw08.QuillLays': WHATEVER THE INPUT: true; the input reads as it did. -/
def quillLaysSpec : ChangeSpec := { name := "quillLays", fn := fun _ => fun
  | [d] => { results := [.lit (.bool true)], args := [d] }
  | _ => none }
def quillLaysRow : OpenClaim := { program := "ytdojgjbiilnjpaa", sum := "0f482fea150a70c99c3ae30d7f75c19b00f3349236fc65572f35b13f22263d2d", func := "arrears/arrearslaw08.QuillLays", spec := "quillLays", recurses := true, apart := false }
def QuillLaysSaid : Prop := quillLaysRow.holds Try.pinned (OpenSpec.ofChange quillLaysSpec)

/-- ITS FALSE NEIGHBOUR: 'it returns false'. Refute it at one input. -/
def quillLaysWrong : ChangeSpec := { name := "quillLays", fn := fun _ => fun
  | [d] => { results := [.lit (.bool false)], args := [d] }
  | _ => none }
def QuillLaysWrongFalsely : Prop := quillLaysRow.holds Try.pinned (OpenSpec.ofChange quillLaysWrong)

/- THE SECOND FORM. 'bulk': how many values and letters a reading holds, each counted each time it is reached (what is shared counts as often as it is met; a slice's spare places count too). A statement '..UptoSaid' is the law's where the arguments, and the package variables that the reading takes, are together of bulk at most 1048576: NARROWER than '..Said'. Prove '..Said' where nothing that the law and all that it calls make is longer than what came in: it says more and counts as full. Else prove '..UptoSaid'. A law counts once. -/
mutual
def uptoBulk {H : Type} : DataW H → Nat
  | .lit (.string bytes) => bytes.length + 1
  | .lit _ => 1
  | .nil => 1
  | .ptr d => uptoBulk d + 1
  | .slice elems spare => uptoBulkAll elems + uptoBulkAll spare + 1
  | .agg parts => uptoBulkAll parts + 1
  | .iface _ d => uptoBulk d + 1
  | .map entries => uptoBulkEntries entries + 1
  | .held _ => 1
def uptoBulkAll {H : Type} : List (DataW H) → Nat
  | [] => 0
  | d :: r => uptoBulk d + uptoBulkAll r
def uptoBulkEntries {H : Type} : List (Lit × DataW H) → Nat
  | [] => 0
  | x :: r => uptoBulkEntry x + uptoBulkEntries r
def uptoBulkEntry {H : Type} : Lit × DataW H → Nat
  | (.string bytes, d) => bytes.length + uptoBulk d + 1
  | (_, d) => uptoBulk d + 1
 end
def uptoSmall : (H : Type) → List (DataW H) → Bool := fun _ ds => decide (uptoBulkAll ds ≤ 1048576)
def OpenSpec.upto (s : _root_.Go.ChangeSpec) : _root_.Go.OpenSpec := { _root_.Go.OpenSpec.ofChange s with cond := some uptoSmall }

/-- 'arrearslaw08.QuillOrders', WHERE WHAT IT READS IS OF BULK AT MOST 1048576: true; the input reads as it did. -/
def quillOrdersUptoRow : OpenClaim := { program := "ytdojgjbiilnjpaa", sum := "0f482fea150a70c99c3ae30d7f75c19b00f3349236fc65572f35b13f22263d2d", func := "arrears/arrearslaw08.QuillOrders", spec := "quillOrders", apart := false, narrowed := true }
def QuillOrdersUptoSaid : Prop := quillOrdersUptoRow.holds Try.pinned (OpenSpec.upto quillOrdersSpec)

/-- 'arrearslaw08.QuillParts', WHERE WHAT IT READS IS OF BULK AT MOST 1048576: true; the input reads as it did. -/
def quillPartsUptoRow : OpenClaim := { program := "ytdojgjbiilnjpaa", sum := "0f482fea150a70c99c3ae30d7f75c19b00f3349236fc65572f35b13f22263d2d", func := "arrears/arrearslaw08.QuillParts", spec := "quillParts", apart := false, narrowed := true }
def QuillPartsUptoSaid : Prop := quillPartsUptoRow.holds Try.pinned (OpenSpec.upto quillPartsSpec)

/-- 'arrearslaw08.QuillOne', WHERE WHAT IT READS IS OF BULK AT MOST 1048576: true; the input reads as it did. -/
def quillOneUptoRow : OpenClaim := { program := "ytdojgjbiilnjpaa", sum := "0f482fea150a70c99c3ae30d7f75c19b00f3349236fc65572f35b13f22263d2d", func := "arrears/arrearslaw08.QuillOne", spec := "quillOne", apart := false, narrowed := true }
def QuillOneUptoSaid : Prop := quillOneUptoRow.holds Try.pinned (OpenSpec.upto quillOneSpec)

/-- 'arrearslaw08.QuillLays', WHERE WHAT IT READS IS OF BULK AT MOST 1048576: true; the input reads as it did. -/
def quillLaysUptoRow : OpenClaim := { program := "ytdojgjbiilnjpaa", sum := "0f482fea150a70c99c3ae30d7f75c19b00f3349236fc65572f35b13f22263d2d", func := "arrears/arrearslaw08.QuillLays", spec := "quillLays", recurses := true, apart := false, narrowed := true }
def QuillLaysUptoSaid : Prop := quillLaysUptoRow.holds Try.pinned (OpenSpec.upto quillLaysSpec)

end Rows
end Go.Proofs.Ytdojgjbiilnjpaa
