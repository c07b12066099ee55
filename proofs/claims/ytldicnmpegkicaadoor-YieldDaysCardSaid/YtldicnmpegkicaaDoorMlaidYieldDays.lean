import Derived.Test.YtldicnmpegkicaaDoorProg
import Derived.Test.YtldicnmpegkicaaDoorWWords
import Derived.Test.YtldicnmpegkicaaDoorWMore
import Derived.Lib.LaidTab
import Derived.Lib.ItoaNum
import Derived.Lib.SmallJoins
import Derived.KernelRfl
import Derived.WalkKit
set_option linter.unusedVariables false
set_option linter.unusedSimpArgs false
namespace Go.Proofs.YtldicnmpegkicaaDoor.M
open Go.RowKit Go.Proofs.YtldicnmpegkicaaDoorW.PrintWords Go.Proofs.YtldicnmpegkicaaDoorW.PrintMore
/-- What the variables that the law lists hold. -/
structure Laid (w : World) : Prop where
  et : w.cell? ⟨0, 0, none⟩ = some (.iface 105 (.agg #[.pointer (some ⟨3, 29, none⟩)]))
theorem Laid.below {w W : World} (h : Laid w) (hb : Below w.heap.size w W) : Laid W := ⟨pw_cell_below hb h.et⟩
end Go.Proofs.YtldicnmpegkicaaDoor.M
