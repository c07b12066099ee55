/-
  No cell of these rows narrows 'for every input' (looked for: loops, veiled, ifaces, maps, wideKeys, modest, calm, conditions, laid).
  DERIVED. THE GIVEN ROWS OF THIS SEAT. 5 by the template 'for every input the law returns true; each argument reads behind the call as it read before'; 0 by the template 'total and deterministic' (their statements: YtjidjobennlfjaaTotals.lean).
  GIVEN WITH THE SEED: the statements are not yours to turn. If you find one false, say at which input.
  Laid BY PROGRAM, IN A SANDBOX (cutbox-rows.mjs): the forced cells as the released guide's own fill.sh prints them over the translation 461e2730103c88cb… (all of the seat's roots in one cut). By AI agents, Wed Nov 11 2026. No macro, syntax, notation, axiom, sorry.
-/
import Derived.Test.YtjidjobennlfjaaChecked
import GoSem.Claim
import GoSem.ClaimJoined
import GoSem.ClaimMapViews
import Derived.JoinedTies
import Derived.KernelRfl
namespace Go.Proofs.Ytjidjobennlfjaa
/- THE CELL 'sum', in the pinned program and in every row, IS THE sha256 OF THE DUMP (.gsa) THAT YtjidjobennlfjaaProg.lean LOADS. Nothing in Lean hashes anything: it is a label: what it is worth is what the hold of that sum in a sandbox is worth. -/
noncomputable def Try.pinned : Pinned := { name := "ytjidjobennlfjaa", sum := "461e2730103c88cbb0bdf32e6067249ba55d097363fbd3338d15f01f3661cf94", checked := Try.checked }
namespace Rows
def none {H : Type} : Left H := { results := [], args := [] }

/-- 'arrearslaw12.LateTells': WHATEVER THE INPUT: true; the input reads as it did. -/
def lateTellsSpec : ChangeSpec := { name := "lateTells", fn := fun _ => fun
  | [d1, d2, d3] => { results := [.lit (.bool true)], args := [d1, d2, d3] }
  | _ => none }
def lateTellsRow : OpenClaim := { program := "ytjidjobennlfjaa", sum := "461e2730103c88cbb0bdf32e6067249ba55d097363fbd3338d15f01f3661cf94", func := "arrears/arrearslaw12.LateTells", spec := "lateTells", unfollowed := true, recurses := true, apart := false }
def LateTellsSaid : Prop := lateTellsRow.holds Try.pinned (OpenSpec.ofChange lateTellsSpec)

/-- ITS FALSE NEIGHBOUR: 'it returns false'. Refute it at one input. -/
def lateTellsWrong : ChangeSpec := { name := "lateTells", fn := fun _ => fun
  | [d1, d2, d3] => { results := [.lit (.bool false)], args := [d1, d2, d3] }
  | _ => none }
def LateTellsWrongFalsely : Prop := lateTellsRow.holds Try.pinned (OpenSpec.ofChange lateTellsWrong)

/-- 'arrearslaw12.LatePays': WHATEVER THE INPUT: true; the input reads as it did. -/
def latePaysSpec : ChangeSpec := { name := "latePays", fn := fun _ => fun
  | [d1, d2, d3] => { results := [.lit (.bool true)], args := [d1, d2, d3] }
  | _ => none }
def latePaysRow : OpenClaim := { program := "ytjidjobennlfjaa", sum := "461e2730103c88cbb0bdf32e6067249ba55d097363fbd3338d15f01f3661cf94", func := "arrears/arrearslaw12.LatePays", spec := "latePays", unfollowed := true, recurses := true, apart := false }
def LatePaysSaid : Prop := latePaysRow.holds Try.pinned (OpenSpec.ofChange latePaysSpec)

/-- ITS FALSE NEIGHBOUR: 'it returns false'. Refute it at one input. -/
def latePaysWrong : ChangeSpec := { name := "latePays", fn := fun _ => fun
  | [d1, d2, d3] => { results := [.lit (.bool false)], args := [d1, d2, d3] }
  | _ => none }
def LatePaysWrongFalsely : Prop := latePaysRow.holds Try.pinned (OpenSpec.ofChange latePaysWrong)

/-- 'arrearslaw12.LateGoes': WHATEVER THE INPUT: true; the input reads as it did. -/
def lateGoesSpec : ChangeSpec := { name := "lateGoes", fn := fun _ => fun
  | [d1, d2, d3, d4] => { results := [.lit (.bool true)], args := [d1, d2, d3, d4] }
  | _ => none }
def lateGoesRow : OpenClaim := { program := "ytjidjobennlfjaa", sum := "461e2730103c88cbb0bdf32e6067249ba55d097363fbd3338d15f01f3661cf94", func := "arrears/arrearslaw12.LateGoes", spec := "lateGoes", unfollowed := true, recurses := true, apart := false }
def LateGoesSaid : Prop := lateGoesRow.holds Try.pinned (OpenSpec.ofChange lateGoesSpec)

/-- ITS FALSE NEIGHBOUR: 'it returns false'. Refute it at one input. -/
def lateGoesWrong : ChangeSpec := { name := "lateGoes", fn := fun _ => fun
  | [d1, d2, d3, d4] => { results := [.lit (.bool false)], args := [d1, d2, d3, d4] }
  | _ => none }
def LateGoesWrongFalsely : Prop := lateGoesRow.holds Try.pinned (OpenSpec.ofChange lateGoesWrong)

/-- 'arrearslaw12.LateBuckets': WHATEVER THE INPUT: true; the input reads as it did. -/
def lateBucketsSpec : ChangeSpec := { name := "lateBuckets", fn := fun _ => fun
  | [d1, d2, d3] => { results := [.lit (.bool true)], args := [d1, d2, d3] }
  | _ => none }
def lateBucketsRow : OpenClaim := { program := "ytjidjobennlfjaa", sum := "461e2730103c88cbb0bdf32e6067249ba55d097363fbd3338d15f01f3661cf94", func := "arrears/arrearslaw12.LateBuckets", spec := "lateBuckets", unfollowed := true, recurses := true, apart := false }
def LateBucketsSaid : Prop := lateBucketsRow.holds Try.pinned (OpenSpec.ofChange lateBucketsSpec)

/-- ITS FALSE NEIGHBOUR: 'it returns false'. Refute it at one input. -/
def lateBucketsWrong : ChangeSpec := { name := "lateBuckets", fn := fun _ => fun
  | [d1, d2, d3] => { results := [.lit (.bool false)], args := [d1, d2, d3] }
  | _ => none }
def LateBucketsWrongFalsely : Prop := lateBucketsRow.holds Try.pinned (OpenSpec.ofChange lateBucketsWrong)

/-- 'arrearslaw12.LateOwes': WHATEVER THE INPUT: true; the input reads as it did. -/
def lateOwesSpec : ChangeSpec := { name := "lateOwes", fn := fun _ => fun
  | [d1, d2, d3, d4] => { results := [.lit (.bool true)], args := [d1, d2, d3, d4] }
  | _ => none }
def lateOwesRow : OpenClaim := { program := "ytjidjobennlfjaa", sum := "461e2730103c88cbb0bdf32e6067249ba55d097363fbd3338d15f01f3661cf94", func := "arrears/arrearslaw12.LateOwes", spec := "lateOwes", unfollowed := true, recurses := true, apart := false }
def LateOwesSaid : Prop := lateOwesRow.holds Try.pinned (OpenSpec.ofChange lateOwesSpec)

/-- ITS FALSE NEIGHBOUR: 'it returns false'. Refute it at one input. -/
def lateOwesWrong : ChangeSpec := { name := "lateOwes", fn := fun _ => fun
  | [d1, d2, d3, d4] => { results := [.lit (.bool false)], args := [d1, d2, d3, d4] }
  | _ => none }
def LateOwesWrongFalsely : Prop := lateOwesRow.holds Try.pinned (OpenSpec.ofChange lateOwesWrong)

/- THE SECOND FORM. 'bulk': how many values and letters a reading holds, each counted each time it is reached (what is shared counts as often as it is met; a slice's spare places count too). A statement '..UptoSaid' is the law's where the arguments, and the package variables that the reading takes, are together of bulk at most 1048576: NARROWER than '..Said'. Prove '..Said' where nothing that the law and all that it calls make is longer than what came in: it says more and counts as full. Else prove '..UptoSaid'. A law counts once. -/
mutual
def uptoBulk {H : Type} : DataW H → Nat
  | .lit (.string bytes) => bytes.length + 1
  | .lit _ => 1
  | .nil => 1
  | .ptr d => uptoBulk d + 1
  | .slice elems spare => uptoBulkAll elems + uptoBulkAll spare + 1
  | .agg parts => uptoBulkAll parts + 1
  | .iface _ d => uptoBulk d + 1
  | .map entries => uptoBulkEntries entries + 1
  | .held _ => 1
def uptoBulkAll {H : Type} : List (DataW H) → Nat
  | [] => 0
  | d :: r => uptoBulk d + uptoBulkAll r
def uptoBulkEntries {H : Type} : List (Lit × DataW H) → Nat
  | [] => 0
  | x :: r => uptoBulkEntry x + uptoBulkEntries r
def uptoBulkEntry {H : Type} : Lit × DataW H → Nat
  | (.string bytes, d) => bytes.length + uptoBulk d + 1
  | (_, d) => uptoBulk d + 1
 end
def uptoSmall : (H : Type) → List (DataW H) → Bool := fun _ ds => decide (uptoBulkAll ds ≤ 1048576)
def OpenSpec.upto (s : _root_.Go.ChangeSpec) : _root_.Go.OpenSpec := { _root_.Go.OpenSpec.ofChange s with cond := some uptoSmall }

/-- 'arrearslaw12.LateTells', WHERE WHAT IT READS IS OF BULK AT MOST 1048576: true; the input reads as it did. -/
def lateTellsUptoRow : OpenClaim := { program := "ytjidjobennlfjaa", sum := "461e2730103c88cbb0bdf32e6067249ba55d097363fbd3338d15f01f3661cf94", func := "arrears/arrearslaw12.LateTells", spec := "lateTells", unfollowed := true, recurses := true, apart := false, narrowed := true }
def LateTellsUptoSaid : Prop := lateTellsUptoRow.holds Try.pinned (OpenSpec.upto lateTellsSpec)

/-- 'arrearslaw12.LatePays', WHERE WHAT IT READS IS OF BULK AT MOST 1048576: true; the input reads as it did. -/
def latePaysUptoRow : OpenClaim := { program := "ytjidjobennlfjaa", sum := "461e2730103c88cbb0bdf32e6067249ba55d097363fbd3338d15f01f3661cf94", func := "arrears/arrearslaw12.LatePays", spec := "latePays", unfollowed := true, recurses := true, apart := false, narrowed := true }
def LatePaysUptoSaid : Prop := latePaysUptoRow.holds Try.pinned (OpenSpec.upto latePaysSpec)

/-- 'arrearslaw12.LateGoes', WHERE WHAT IT READS IS OF BULK AT MOST 1048576: true; the input reads as it did. -/
def lateGoesUptoRow : OpenClaim := { program := "ytjidjobennlfjaa", sum := "461e2730103c88cbb0bdf32e6067249ba55d097363fbd3338d15f01f3661cf94", func := "arrears/arrearslaw12.LateGoes", spec := "lateGoes", unfollowed := true, recurses := true, apart := false, narrowed := true }
def LateGoesUptoSaid : Prop := lateGoesUptoRow.holds Try.pinned (OpenSpec.upto lateGoesSpec)

/-- 'arrearslaw12.LateBuckets', WHERE WHAT IT READS IS OF BULK AT MOST 1048576: true; the input reads as it did. -/
def lateBucketsUptoRow : OpenClaim := { program := "ytjidjobennlfjaa", sum := "461e2730103c88cbb0bdf32e6067249ba55d097363fbd3338d15f01f3661cf94", func := "arrears/arrearslaw12.LateBuckets", spec := "lateBuckets", unfollowed := true, recurses := true, apart := false, narrowed := true }
def LateBucketsUptoSaid : Prop := lateBucketsUptoRow.holds Try.pinned (OpenSpec.upto lateBucketsSpec)

/-- 'arrearslaw12.LateOwes', WHERE WHAT IT READS IS OF BULK AT MOST 1048576: true; the input reads as it did. -/
def lateOwesUptoRow : OpenClaim := { program := "ytjidjobennlfjaa", sum := "461e2730103c88cbb0bdf32e6067249ba55d097363fbd3338d15f01f3661cf94", func := "arrears/arrearslaw12.LateOwes", spec := "lateOwes", unfollowed := true, recurses := true, apart := false, narrowed := true }
def LateOwesUptoSaid : Prop := lateOwesUptoRow.holds Try.pinned (OpenSpec.upto lateOwesSpec)

end Rows
end Go.Proofs.Ytjidjobennlfjaa
