-- Printed by a wrapper of this session's round the kit's print.py; Lean checks it.
import Derived.Test.YtbncddmmngcdkaaDoorPSplitPaysx0
namespace Go.Proofs.YtbncddmmngcdkaaDoor.PSplitPays
open Go.RowKit Go.Proofs.YtbncddmmngcdkaaDoorW.PrintWords Go.Proofs.YtbncddmmngcdkaaDoorW.PrintLast Go.Proofs.YtbncddmmngcdkaaDoorW.PrintMore
attribute [local go_sem] max2_int min2_int max_two min_two max_three min_three max_four min_four   -- for this text's walks alone
set_option linter.unusedVariables false
set_option linter.unusedSimpArgs false

theorem eqA33 (d : Nat) (w : World) (x0 y0 : Int) (x1 y1 : Int) (x2 y2 : Int) :
    (Op.equalIn (d + 2) 33 (.agg #[.int .i64 x0, .int .i64 x1, .int .i64 x2]) (.agg #[.int .i64 y0, .int .i64 y1, .int .i64 y2])).run Tryd.prog w = .ok (x0 == y0 && (x1 == y1 && (x2 == y2))) w := by
  have hu := Tryd.underlying33
  have e := fun (W : World) (a b : Int) => run_equalIn_int (P := Tryd.prog) W d 2 .i64 .i64 a b Tryd.underlying2
  rw [show d + 2 = (d + 1) + 1 from rfl, Op.equalIn]
  simp only [Sem.run_bind, run_underlying hu, Result.andThen_ok]
  go_simp
  simp [Std.Legacy.Range.forIn_eq_forIn_range', Std.Legacy.Range.size, List.range', e, go_sem]
  by_cases c0 : x0 = y0 <;> by_cases c1 : x1 = y1 <;> by_cases c2 : x2 = y2 <;> simp [c0, c1, c2]

end Go.Proofs.YtbncddmmngcdkaaDoor.PSplitPays
