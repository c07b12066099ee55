/-
  No cell of these rows narrows 'for every input' (looked for: loops, veiled, ifaces, maps, wideKeys, modest, calm, conditions, laid).
  DERIVED. THE GIVEN ROWS OF THIS SEAT. 4 by the template 'for every input the law returns true; each argument reads behind the call as it read before'; 0 by the template 'total and deterministic' (their statements: YtoclgoknednjgaaTotals.lean).
  GIVEN WITH THE SEED: the statements are not yours to turn. If you find one false, say at which input.
  Laid BY PROGRAM, IN A SANDBOX (cutbox-rows.mjs): the forced cells as the released guide's own fill.sh prints them over the translation 44424a641a4c0df3… (all of the seat's roots in one cut). By AI agents, Wed Nov 11 2026. No macro, syntax, notation, axiom, sorry.
-/
import Derived.Test.YtoclgoknednjgaaChecked
import GoSem.Claim
import GoSem.ClaimJoined
import GoSem.ClaimMapViews
import Derived.JoinedTies
import Derived.KernelRfl
namespace Go.Proofs.Ytoclgoknednjgaa
/- THE CELL 'sum', in the pinned program and in every row, IS THE sha256 OF THE DUMP (.gsa) THAT YtoclgoknednjgaaProg.lean LOADS. Nothing in Lean hashes anything: it is a label: what it is worth is what the hold of that sum in a sandbox is worth. -/
noncomputable def Try.pinned : Pinned := { name := "ytoclgoknednjgaa", sum := "44424a641a4c0df3a4bdad8683602946e064a0954ffb88c33e91dcb02214efed", checked := Try.checked }
namespace Rows
def none {H : Type} : Left H := { results := [], args := [] }

/-- 'arrearslaw10.LevelOrders': WHATEVER THE INPUT: true; the input reads as it did. -/
def levelOrdersSpec : ChangeSpec := { name := "levelOrders", fn := fun _ => fun
  | [d1, d2, d3, d4, d5] => { results := [.lit (.bool true)], args := [d1, d2, d3, d4, d5] }
  | _ => none }
def levelOrdersRow : OpenClaim := { program := "ytoclgoknednjgaa", sum := "44424a641a4c0df3a4bdad8683602946e064a0954ffb88c33e91dcb02214efed", func := "arrears/arrearslaw10.LevelOrders", spec := "levelOrders", named := ["math/bits.divideError", "math/bits.overflowError"], apart := false }
def LevelOrdersSaid : Prop := levelOrdersRow.holds Try.pinned (OpenSpec.ofChange levelOrdersSpec)

/-- ITS FALSE NEIGHBOUR: 'it returns false'. Refute it at one input. -/
def levelOrdersWrong : ChangeSpec := { name := "levelOrders", fn := fun _ => fun
  | [d1, d2, d3, d4, d5] => { results := [.lit (.bool false)], args := [d1, d2, d3, d4, d5] }
  | _ => none }
def LevelOrdersWrongFalsely : Prop := levelOrdersRow.holds Try.pinned (OpenSpec.ofChange levelOrdersWrong)

/-- 'arrearslaw10.LevelOnly': WHATEVER THE INPUT: true; the input reads as it did. -/
def levelOnlySpec : ChangeSpec := { name := "levelOnly", fn := fun _ => fun
  | [d1, d2, d3] => { results := [.lit (.bool true)], args := [d1, d2, d3] }
  | _ => none }
def levelOnlyRow : OpenClaim := { program := "ytoclgoknednjgaa", sum := "44424a641a4c0df3a4bdad8683602946e064a0954ffb88c33e91dcb02214efed", func := "arrears/arrearslaw10.LevelOnly", spec := "levelOnly", named := ["math/bits.divideError", "math/bits.overflowError"], apart := false }
def LevelOnlySaid : Prop := levelOnlyRow.holds Try.pinned (OpenSpec.ofChange levelOnlySpec)

/-- ITS FALSE NEIGHBOUR: 'it returns false'. Refute it at one input. -/
def levelOnlyWrong : ChangeSpec := { name := "levelOnly", fn := fun _ => fun
  | [d1, d2, d3] => { results := [.lit (.bool false)], args := [d1, d2, d3] }
  | _ => none }
def LevelOnlyWrongFalsely : Prop := levelOnlyRow.holds Try.pinned (OpenSpec.ofChange levelOnlyWrong)

/-- 'arrearslaw10.LevelAdds': WHATEVER THE INPUT: true; the input reads as it did. -/
def levelAddsSpec : ChangeSpec := { name := "levelAdds", fn := fun _ => fun
  | [d1, d2, d3] => { results := [.lit (.bool true)], args := [d1, d2, d3] }
  | _ => none }
def levelAddsRow : OpenClaim := { program := "ytoclgoknednjgaa", sum := "44424a641a4c0df3a4bdad8683602946e064a0954ffb88c33e91dcb02214efed", func := "arrears/arrearslaw10.LevelAdds", spec := "levelAdds", named := ["math/bits.divideError", "math/bits.overflowError"], apart := false }
def LevelAddsSaid : Prop := levelAddsRow.holds Try.pinned (OpenSpec.ofChange levelAddsSpec)

/-- ITS FALSE NEIGHBOUR: 'it returns false'. Refute it at one input. -/
def levelAddsWrong : ChangeSpec := { name := "levelAdds", fn := fun _ => fun
  | [d1, d2, d3] => { results := [.lit (.bool false)], args := [d1, d2, d3] }
  | _ => none }
def LevelAddsWrongFalsely : Prop := levelAddsRow.holds Try.pinned (OpenSpec.ofChange levelAddsWrong)

/-- 'arrearslaw10.LevelNames': WHATEVER THE INPUT: true; the input reads as it did. -/
def levelNamesSpec : ChangeSpec := { name := "levelNames", fn := fun _ => fun
  | [d1, d2] => { results := [.lit (.bool true)], args := [d1, d2] }
  | _ => none }
def levelNamesRow : OpenClaim := { program := "ytoclgoknednjgaa", sum := "44424a641a4c0df3a4bdad8683602946e064a0954ffb88c33e91dcb02214efed", func := "arrears/arrearslaw10.LevelNames", spec := "levelNames", named := ["math/bits.divideError", "math/bits.overflowError"], apart := false }
def LevelNamesSaid : Prop := levelNamesRow.holds Try.pinned (OpenSpec.ofChange levelNamesSpec)

/-- ITS FALSE NEIGHBOUR: 'it returns false'. Refute it at one input. -/
def levelNamesWrong : ChangeSpec := { name := "levelNames", fn := fun _ => fun
  | [d1, d2] => { results := [.lit (.bool false)], args := [d1, d2] }
  | _ => none }
def LevelNamesWrongFalsely : Prop := levelNamesRow.holds Try.pinned (OpenSpec.ofChange levelNamesWrong)

/- THE SECOND FORM. 'bulk': how many values and letters a reading holds, each counted each time it is reached (what is shared counts as often as it is met; a slice's spare places count too). A statement '..UptoSaid' is the law's where the arguments, and the package variables that the reading takes, are together of bulk at most 1048576: NARROWER than '..Said'. Prove '..Said' where nothing that the law and all that it calls make is longer than what came in: it says more and counts as full. Else prove '..UptoSaid'. A law counts once. -/
mutual
def uptoBulk {H : Type} : DataW H → Nat
  | .lit (.string bytes) => bytes.length + 1
  | .lit _ => 1
  | .nil => 1
  | .ptr d => uptoBulk d + 1
  | .slice elems spare => uptoBulkAll elems + uptoBulkAll spare + 1
  | .agg parts => uptoBulkAll parts + 1
  | .iface _ d => uptoBulk d + 1
  | .map entries => uptoBulkEntries entries + 1
  | .held _ => 1
def uptoBulkAll {H : Type} : List (DataW H) → Nat
  | [] => 0
  | d :: r => uptoBulk d + uptoBulkAll r
def uptoBulkEntries {H : Type} : List (Lit × DataW H) → Nat
  | [] => 0
  | x :: r => uptoBulkEntry x + uptoBulkEntries r
def uptoBulkEntry {H : Type} : Lit × DataW H → Nat
  | (.string bytes, d) => bytes.length + uptoBulk d + 1
  | (_, d) => uptoBulk d + 1
 end
def uptoSmall : (H : Type) → List (DataW H) → Bool := fun _ ds => decide (uptoBulkAll ds ≤ 1048576)
def OpenSpec.upto (s : _root_.Go.ChangeSpec) : _root_.Go.OpenSpec := { _root_.Go.OpenSpec.ofChange s with cond := some uptoSmall }

/-- 'arrearslaw10.LevelOrders', WHERE WHAT IT READS IS OF BULK AT MOST 1048576: true; the input reads as it did. -/
def levelOrdersUptoRow : OpenClaim := { program := "ytoclgoknednjgaa", sum := "44424a641a4c0df3a4bdad8683602946e064a0954ffb88c33e91dcb02214efed", func := "arrears/arrearslaw10.LevelOrders", spec := "levelOrders", named := ["math/bits.divideError", "math/bits.overflowError"], apart := false, narrowed := true }
def LevelOrdersUptoSaid : Prop := levelOrdersUptoRow.holds Try.pinned (OpenSpec.upto levelOrdersSpec)

/-- 'arrearslaw10.LevelOnly', WHERE WHAT IT READS IS OF BULK AT MOST 1048576: true; the input reads as it did. -/
def levelOnlyUptoRow : OpenClaim := { program := "ytoclgoknednjgaa", sum := "44424a641a4c0df3a4bdad8683602946e064a0954ffb88c33e91dcb02214efed", func := "arrears/arrearslaw10.LevelOnly", spec := "levelOnly", named := ["math/bits.divideError", "math/bits.overflowError"], apart := false, narrowed := true }
def LevelOnlyUptoSaid : Prop := levelOnlyUptoRow.holds Try.pinned (OpenSpec.upto levelOnlySpec)

/-- 'arrearslaw10.LevelAdds', WHERE WHAT IT READS IS OF BULK AT MOST 1048576: true; the input reads as it did. -/
def levelAddsUptoRow : OpenClaim := { program := "ytoclgoknednjgaa", sum := "44424a641a4c0df3a4bdad8683602946e064a0954ffb88c33e91dcb02214efed", func := "arrears/arrearslaw10.LevelAdds", spec := "levelAdds", named := ["math/bits.divideError", "math/bits.overflowError"], apart := false, narrowed := true }
def LevelAddsUptoSaid : Prop := levelAddsUptoRow.holds Try.pinned (OpenSpec.upto levelAddsSpec)

/-- 'arrearslaw10.LevelNames', WHERE WHAT IT READS IS OF BULK AT MOST 1048576: true; the input reads as it did. -/
def levelNamesUptoRow : OpenClaim := { program := "ytoclgoknednjgaa", sum := "44424a641a4c0df3a4bdad8683602946e064a0954ffb88c33e91dcb02214efed", func := "arrears/arrearslaw10.LevelNames", spec := "levelNames", named := ["math/bits.divideError", "math/bits.overflowError"], apart := false, narrowed := true }
def LevelNamesUptoSaid : Prop := levelNamesUptoRow.holds Try.pinned (OpenSpec.upto levelNamesSpec)

end Rows
end Go.Proofs.Ytoclgoknednjgaa
