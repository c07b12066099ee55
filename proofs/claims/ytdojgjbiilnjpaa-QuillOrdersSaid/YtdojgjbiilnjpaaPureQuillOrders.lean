/- The pure statement behind the law QuillOrders, over numbers and lists alone. Conditions: those that the printed statement names (each number is of its kind). -/
import Derived.Test.YtdojgjbiilnjpaaDQuillOrders
import Derived.Test.YtdojgjbiilnjpaaMquilmath
set_option linter.unusedVariables false
set_option linter.unusedSimpArgs false
namespace Go.Proofs.Ytdojgjbiilnjpaa.PQuillOrders
open Go.RowKit Go.Proofs.YtdojgjbiilnjpaaW.PrintWords Go.Proofs.YtdojgjbiilnjpaaW.PrintLast Go.Proofs.YtdojgjbiilnjpaaW.PrintMore Go.Proofs.Ytdojgjbiilnjpaa.M

theorem pure_proved : arrearslaw08_QuillOrders.Pure := by
  intro a b i ha hb hi
  unfold arrearslaw08_QuillOrders.f
  have la := nlay_len a.toNat 0
  have lb := nlay_len b.toNat 0
  have na := nsz_le a.toNat (by omega)
  have nb := nsz_le b.toNat (by omega)
  have li := qint_len i hi.1 hi.2
  have ra := nlay_rng a.toNat 0 (by omega) (by omega)
  have ri := qint_rng i hi.1 hi.2
  rw [if_pos]
  refine ⟨ha, hb, hi, by omega, by omega, by omega, List.all_eq_true.2 fun x hx => decide_eq_true (ra x hx), List.all_eq_true.2 fun x hx => decide_eq_true (ri x hx), ?_⟩
  refine ⟨?_, ?_, ?_, li, ?_, ?_⟩
  · rw [less_nlay _ _ (by omega) (by omega)]
    exact decide_eq_decide.2 ⟨fun h => by omega, fun h => by omega⟩
  · intro h
    rw [strOfNums_size, strOfNums_size, la, lb]
    have := nsz_mono (a := a.toNat) (b := b.toNat) (by omega) (by omega) (by omega)
    omega
  · have := lint_qint i hi.1 hi.2 []
    rw [List.append_nil] at this
    rw [this]
  · intro h
    have := luint_nlay a.toNat (by omega) [] (a - 1)
    rw [List.append_nil, if_neg (by omega)] at this
    rw [this]
  · have := luint_nlay a.toNat (by omega) [] a
    rw [List.append_nil, if_pos (by omega)] at this
    rw [this]
    show ((a.toNat : Nat) : Int) = a
    omega

end Go.Proofs.Ytdojgjbiilnjpaa.PQuillOrders
