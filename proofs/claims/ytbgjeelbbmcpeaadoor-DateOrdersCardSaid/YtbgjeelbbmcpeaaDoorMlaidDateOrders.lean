import Derived.Test.YtbgjeelbbmcpeaaDoorProg
import Derived.Test.YtbgjeelbbmcpeaaDoorWWords
import Derived.Test.YtbgjeelbbmcpeaaDoorWMore
import Derived.Lib.LaidTab
import Derived.Lib.ItoaNum
import Derived.Lib.SmallJoins
import Derived.KernelRfl
import Derived.WalkKit
set_option linter.unusedVariables false
set_option linter.unusedSimpArgs false
namespace Go.Proofs.YtbgjeelbbmcpeaaDoor.M
open Go.RowKit Go.Proofs.YtbgjeelbbmcpeaaDoorW.PrintWords Go.Proofs.YtbgjeelbbmcpeaaDoorW.PrintMore
/-- What the variables that the law lists hold. -/
structure Laid (w : World) : Prop where
  pow : Go.Lib.TabIs Tryd.prog w "internal/strconv.uint64pow10" .u64 Go.Lib.pow10Tab
theorem Laid.below {w W : World} (h : Laid w) (hb : Below w.heap.size w W) : Laid W := ⟨Go.Joins.var_stays (g := 3) (by kernel_rfl) h.pow hb (Nat.le_refl _)⟩
end Go.Proofs.YtbgjeelbbmcpeaaDoor.M
