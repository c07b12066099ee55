import Derived.Test.YtfpbibfoipbahaaDoorProg
import Derived.Test.YtfpbibfoipbahaaDoorWWords
import Derived.Test.YtfpbibfoipbahaaDoorWMore
import Derived.Lib.LaidTab
import Derived.Lib.ItoaNum
import Derived.Lib.SmallJoins
import Derived.KernelRfl
import Derived.WalkKit
set_option linter.unusedVariables false
set_option linter.unusedSimpArgs false
namespace Go.Proofs.YtfpbibfoipbahaaDoor.M
open Go.RowKit Go.Proofs.YtfpbibfoipbahaaDoorW.PrintWords Go.Proofs.YtfpbibfoipbahaaDoorW.PrintMore
/-- What the variables that the law lists hold. -/
structure Laid (w : World) : Prop where
  et : w.cell? ⟨0, 0, none⟩ = some (.iface 80 (.agg #[.pointer (some ⟨3, 25, none⟩)]))
theorem Laid.below {w W : World} (h : Laid w) (hb : Below w.heap.size w W) : Laid W := ⟨pw_cell_below hb h.et⟩
end Go.Proofs.YtfpbibfoipbahaaDoor.M
