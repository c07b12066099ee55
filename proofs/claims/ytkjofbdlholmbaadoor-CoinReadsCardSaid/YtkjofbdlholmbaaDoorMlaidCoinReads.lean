import Derived.Test.YtkjofbdlholmbaaDoorProg
import Derived.Test.YtkjofbdlholmbaaDoorWWords
import Derived.Test.YtkjofbdlholmbaaDoorWMore
import Derived.Lib.LaidTab
import Derived.Lib.ItoaNum
import Derived.Lib.SmallJoins
import Derived.KernelRfl
import Derived.WalkKit
set_option linter.unusedVariables false
set_option linter.unusedSimpArgs false
namespace Go.Proofs.YtkjofbdlholmbaaDoor.M
open Go.RowKit Go.Proofs.YtkjofbdlholmbaaDoorW.PrintWords Go.Proofs.YtkjofbdlholmbaaDoorW.PrintMore
/-- What the variables that the law lists hold. -/
structure Laid (w : World) : Prop where
  et : w.cell? ⟨1, 0, none⟩ = some (.iface 90 (.agg #[.pointer (some ⟨7, 26, none⟩)]))
  pow : Go.Lib.TabIs Tryd.prog w "internal/strconv.uint64pow10" .u64 Go.Lib.pow10Tab
  rng : ∃ tp p, w.var? Tryd.prog "strconv.ErrRange" = some #[.iface tp p]
  syn : ∃ tp p, w.var? Tryd.prog "strconv.ErrSyntax" = some #[.iface tp p]
  rnp : ∃ a, w.var? Tryd.prog "strconv.ErrRange" = some #[.iface 122 (.pointer (some a))]
  mx : ∃ m, w.cell? ⟨3, 0, none⟩ = some (.int .i64 m)
theorem Laid.below {w W : World} (h : Laid w) (hb : Below w.heap.size w W) : Laid W := ⟨pw_cell_below hb h.et, Go.Joins.var_stays (g := 2) (by kernel_rfl) h.pow hb (Nat.le_refl _), (by obtain ⟨tp, p, h1⟩ := h.rng; exact ⟨tp, p, Go.Joins.var_stays (g := 0) (by kernel_rfl) h1 hb (Nat.le_refl _)⟩), (by obtain ⟨tp, p, h1⟩ := h.syn; exact ⟨tp, p, Go.Joins.var_stays (g := 4) (by kernel_rfl) h1 hb (Nat.le_refl _)⟩), (by obtain ⟨a, h1⟩ := h.rnp; exact ⟨a, Go.Joins.var_stays (g := 0) (by kernel_rfl) h1 hb (Nat.le_refl _)⟩), (by obtain ⟨m, h1⟩ := h.mx; exact ⟨m, pw_cell_below hb h1⟩)⟩
end Go.Proofs.YtkjofbdlholmbaaDoor.M
