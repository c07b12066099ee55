/-
  No cell of these rows narrows 'for every input' (looked for: loops, veiled, ifaces, maps, wideKeys, modest, calm, conditions, laid).
  DERIVED. THE GIVEN ROWS OF THIS SEAT. 3 by the template 'for every input the law returns true; each argument reads behind the call as it read before'; 0 by the template 'total and deterministic' (their statements: YtldicnmpegkicaaTotals.lean).
  GIVEN WITH THE SEED: the statements are not yours to turn. If you find one false, say at which input.
  Laid BY PROGRAM, IN A SANDBOX (cutbox-rows.mjs): the forced cells as the released guide's own fill.sh prints them over the translation 35b64f8fbbc42e07… (all of the seat's roots in one cut). By AI agents, Wed Nov 11 2026. No macro, syntax, notation, axiom, sorry.
-/
import Derived.Test.YtldicnmpegkicaaChecked
import GoSem.Claim
import GoSem.ClaimJoined
import GoSem.ClaimMapViews
import Derived.JoinedTies
import Derived.KernelRfl
namespace Go.Proofs.Ytldicnmpegkicaa
/- THE CELL 'sum', in the pinned program and in every row, IS THE sha256 OF THE DUMP (.gsa) THAT YtldicnmpegkicaaProg.lean LOADS. Nothing in Lean hashes anything: it is a label: what it is worth is what the hold of that sum in a sandbox is worth. -/
noncomputable def Try.pinned : Pinned := { name := "ytldicnmpegkicaa", sum := "35b64f8fbbc42e0708b13ad15616eb1559bee5e8415462e90a15ca1e3b740502", checked := Try.checked }
namespace Rows
def none {H : Type} : Left H := { results := [], args := [] }

/-- 'arrearslaw09.YieldAdds': WHATEVER THE INPUT: true; the input reads as it did. -/
def yieldAddsSpec : ChangeSpec := { name := "yieldAdds", fn := fun _ => fun
  | [d1, d2, d3, d4] => { results := [.lit (.bool true)], args := [d1, d2, d3, d4] }
  | _ => none }
def yieldAddsRow : OpenClaim := { program := "ytldicnmpegkicaa", sum := "35b64f8fbbc42e0708b13ad15616eb1559bee5e8415462e90a15ca1e3b740502", func := "arrears/arrearslaw09.YieldAdds", spec := "yieldAdds", inPlace := ["math/bits.Add64"], named := ["math/bits.divideError", "math/bits.overflowError"], apart := false }
def YieldAddsSaid : Prop := yieldAddsRow.holds Try.pinned (OpenSpec.ofChange yieldAddsSpec)

/-- ITS FALSE NEIGHBOUR: 'it returns false'. Refute it at one input. -/
def yieldAddsWrong : ChangeSpec := { name := "yieldAdds", fn := fun _ => fun
  | [d1, d2, d3, d4] => { results := [.lit (.bool false)], args := [d1, d2, d3, d4] }
  | _ => none }
def YieldAddsWrongFalsely : Prop := yieldAddsRow.holds Try.pinned (OpenSpec.ofChange yieldAddsWrong)

/-- 'arrearslaw09.YieldGrows': WHATEVER THE INPUT: true; the input reads as it did. -/
def yieldGrowsSpec : ChangeSpec := { name := "yieldGrows", fn := fun _ => fun
  | [d1, d2, d3, d4, d5, d6] => { results := [.lit (.bool true)], args := [d1, d2, d3, d4, d5, d6] }
  | _ => none }
def yieldGrowsRow : OpenClaim := { program := "ytldicnmpegkicaa", sum := "35b64f8fbbc42e0708b13ad15616eb1559bee5e8415462e90a15ca1e3b740502", func := "arrears/arrearslaw09.YieldGrows", spec := "yieldGrows", inPlace := ["math/bits.Add64"], named := ["math/bits.divideError", "math/bits.overflowError"], apart := false }
def YieldGrowsSaid : Prop := yieldGrowsRow.holds Try.pinned (OpenSpec.ofChange yieldGrowsSpec)

/-- ITS FALSE NEIGHBOUR: 'it returns false'. Refute it at one input. -/
def yieldGrowsWrong : ChangeSpec := { name := "yieldGrows", fn := fun _ => fun
  | [d1, d2, d3, d4, d5, d6] => { results := [.lit (.bool false)], args := [d1, d2, d3, d4, d5, d6] }
  | _ => none }
def YieldGrowsWrongFalsely : Prop := yieldGrowsRow.holds Try.pinned (OpenSpec.ofChange yieldGrowsWrong)

/-- 'arrearslaw09.YieldBounds': WHATEVER THE INPUT: true; the input reads as it did. -/
def yieldBoundsSpec : ChangeSpec := { name := "yieldBounds", fn := fun _ => fun
  | [d1, d2, d3, d4] => { results := [.lit (.bool true)], args := [d1, d2, d3, d4] }
  | _ => none }
def yieldBoundsRow : OpenClaim := { program := "ytldicnmpegkicaa", sum := "35b64f8fbbc42e0708b13ad15616eb1559bee5e8415462e90a15ca1e3b740502", func := "arrears/arrearslaw09.YieldBounds", spec := "yieldBounds", inPlace := ["math/bits.Add64"], named := ["math/bits.divideError", "math/bits.overflowError"], apart := false }
def YieldBoundsSaid : Prop := yieldBoundsRow.holds Try.pinned (OpenSpec.ofChange yieldBoundsSpec)

/-- ITS FALSE NEIGHBOUR: 'it returns false'. Refute it at one input. -/
def yieldBoundsWrong : ChangeSpec := { name := "yieldBounds", fn := fun _ => fun
  | [d1, d2, d3, d4] => { results := [.lit (.bool false)], args := [d1, d2, d3, d4] }
  | _ => none }
def YieldBoundsWrongFalsely : Prop := yieldBoundsRow.holds Try.pinned (OpenSpec.ofChange yieldBoundsWrong)

/- THE SECOND FORM. 'bulk': how many values and letters a reading holds, each counted each time it is reached (what is shared counts as often as it is met; a slice's spare places count too). A statement '..UptoSaid' is the law's where the arguments, and the package variables that the reading takes, are together of bulk at most 1048576: NARROWER than '..Said'. Prove '..Said' where nothing that the law and all that it calls make is longer than what came in: it says more and counts as full. Else prove '..UptoSaid'. A law counts once. -/
mutual
def uptoBulk {H : Type} : DataW H → Nat
  | .lit (.string bytes) => bytes.length + 1
  | .lit _ => 1
  | .nil => 1
  | .ptr d => uptoBulk d + 1
  | .slice elems spare => uptoBulkAll elems + uptoBulkAll spare + 1
  | .agg parts => uptoBulkAll parts + 1
  | .iface _ d => uptoBulk d + 1
  | .map entries => uptoBulkEntries entries + 1
  | .held _ => 1
def uptoBulkAll {H : Type} : List (DataW H) → Nat
  | [] => 0
  | d :: r => uptoBulk d + uptoBulkAll r
def uptoBulkEntries {H : Type} : List (Lit × DataW H) → Nat
  | [] => 0
  | x :: r => uptoBulkEntry x + uptoBulkEntries r
def uptoBulkEntry {H : Type} : Lit × DataW H → Nat
  | (.string bytes, d) => bytes.length + uptoBulk d + 1
  | (_, d) => uptoBulk d + 1
 end
def uptoSmall : (H : Type) → List (DataW H) → Bool := fun _ ds => decide (uptoBulkAll ds ≤ 1048576)
def OpenSpec.upto (s : _root_.Go.ChangeSpec) : _root_.Go.OpenSpec := { _root_.Go.OpenSpec.ofChange s with cond := some uptoSmall }

/-- 'arrearslaw09.YieldAdds', WHERE WHAT IT READS IS OF BULK AT MOST 1048576: true; the input reads as it did. -/
def yieldAddsUptoRow : OpenClaim := { program := "ytldicnmpegkicaa", sum := "35b64f8fbbc42e0708b13ad15616eb1559bee5e8415462e90a15ca1e3b740502", func := "arrears/arrearslaw09.YieldAdds", spec := "yieldAdds", inPlace := ["math/bits.Add64"], named := ["math/bits.divideError", "math/bits.overflowError"], apart := false, narrowed := true }
def YieldAddsUptoSaid : Prop := yieldAddsUptoRow.holds Try.pinned (OpenSpec.upto yieldAddsSpec)

/-- 'arrearslaw09.YieldGrows', WHERE WHAT IT READS IS OF BULK AT MOST 1048576: true; the input reads as it did. -/
def yieldGrowsUptoRow : OpenClaim := { program := "ytldicnmpegkicaa", sum := "35b64f8fbbc42e0708b13ad15616eb1559bee5e8415462e90a15ca1e3b740502", func := "arrears/arrearslaw09.YieldGrows", spec := "yieldGrows", inPlace := ["math/bits.Add64"], named := ["math/bits.divideError", "math/bits.overflowError"], apart := false, narrowed := true }
def YieldGrowsUptoSaid : Prop := yieldGrowsUptoRow.holds Try.pinned (OpenSpec.upto yieldGrowsSpec)

/-- 'arrearslaw09.YieldBounds', WHERE WHAT IT READS IS OF BULK AT MOST 1048576: true; the input reads as it did. -/
def yieldBoundsUptoRow : OpenClaim := { program := "ytldicnmpegkicaa", sum := "35b64f8fbbc42e0708b13ad15616eb1559bee5e8415462e90a15ca1e3b740502", func := "arrears/arrearslaw09.YieldBounds", spec := "yieldBounds", inPlace := ["math/bits.Add64"], named := ["math/bits.divideError", "math/bits.overflowError"], apart := false, narrowed := true }
def YieldBoundsUptoSaid : Prop := yieldBoundsUptoRow.holds Try.pinned (OpenSpec.upto yieldBoundsSpec)

end Rows
end Go.Proofs.Ytldicnmpegkicaa
