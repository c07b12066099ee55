import Derived.Test.YtoclgoknednjgaaDoorProg
import Derived.Test.YtoclgoknednjgaaDoorWWords
import Derived.Test.YtoclgoknednjgaaDoorWMore
import Derived.Lib.LaidTab
import Derived.Lib.ItoaNum
import Derived.Lib.SmallJoins
import Derived.KernelRfl
import Derived.WalkKit
set_option linter.unusedVariables false
set_option linter.unusedSimpArgs false
namespace Go.Proofs.YtoclgoknednjgaaDoor.M
open Go.RowKit Go.Proofs.YtoclgoknednjgaaDoorW.PrintWords Go.Proofs.YtoclgoknednjgaaDoorW.PrintMore
/-- What the variables that the law lists hold. -/
structure Laid (w : World) : Prop where
  et : w.cell? ⟨0, 0, none⟩ = some (.iface 78 (.agg #[.pointer (some ⟨3, 28, none⟩)]))
theorem Laid.below {w W : World} (h : Laid w) (hb : Below w.heap.size w W) : Laid W := ⟨pw_cell_below hb h.et⟩
end Go.Proofs.YtoclgoknednjgaaDoor.M
