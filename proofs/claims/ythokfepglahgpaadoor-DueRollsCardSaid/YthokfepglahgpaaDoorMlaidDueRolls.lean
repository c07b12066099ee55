import Derived.Test.YthokfepglahgpaaDoorProg
import Derived.Test.YthokfepglahgpaaDoorWWords
import Derived.Test.YthokfepglahgpaaDoorWMore
import Derived.Lib.LaidTab
import Derived.Lib.ItoaNum
import Derived.Lib.SmallJoins
import Derived.KernelRfl
import Derived.WalkKit
set_option linter.unusedVariables false
set_option linter.unusedSimpArgs false
namespace Go.Proofs.YthokfepglahgpaaDoor.M
open Go.RowKit Go.Proofs.YthokfepglahgpaaDoorW.PrintWords Go.Proofs.YthokfepglahgpaaDoorW.PrintMore
/-- What the variables that the law lists hold. -/
structure Laid (w : World) : Prop where
  et : w.cell? ⟨0, 0, none⟩ = some (.iface 92 (.agg #[.pointer (some ⟨6, 26, none⟩)]))
  pow : Go.Lib.TabIs Tryd.prog w "internal/strconv.uint64pow10" .u64 Go.Lib.pow10Tab
  rng : ∃ tp p, w.var? Tryd.prog "strconv.ErrRange" = some #[.iface tp p]
  syn : ∃ tp p, w.var? Tryd.prog "strconv.ErrSyntax" = some #[.iface tp p]
theorem Laid.below {w W : World} (h : Laid w) (hb : Below w.heap.size w W) : Laid W := ⟨pw_cell_below hb h.et, Go.Joins.var_stays (g := 3) (by kernel_rfl) h.pow hb (Nat.le_refl _), (by obtain ⟨tp, p, h1⟩ := h.rng; exact ⟨tp, p, Go.Joins.var_stays (g := 2) (by kernel_rfl) h1 hb (Nat.le_refl _)⟩), (by obtain ⟨tp, p, h1⟩ := h.syn; exact ⟨tp, p, Go.Joins.var_stays (g := 1) (by kernel_rfl) h1 hb (Nat.le_refl _)⟩)⟩
end Go.Proofs.YthokfepglahgpaaDoor.M
