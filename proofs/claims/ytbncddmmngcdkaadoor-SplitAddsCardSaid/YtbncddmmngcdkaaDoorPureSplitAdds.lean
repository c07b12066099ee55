/- The pure statement behind the law SplitAdds, over numbers and lists alone. Conditions: those that the printed statement names (each number is of its kind). -/
import Derived.Test.YtbncddmmngcdkaaDoorDSplitAdds
set_option linter.unusedVariables false
set_option linter.unusedSimpArgs false
namespace Go.Proofs.YtbncddmmngcdkaaDoor.PSplitAdds
open Go.RowKit Go.Proofs.YtbncddmmngcdkaaDoorW.PrintWords Go.Proofs.YtbncddmmngcdkaaDoorW.PrintLast Go.Proofs.YtbncddmmngcdkaaDoorW.PrintMore

theorem right_eq (a b c : Int) : split_Owed_Right.f a b c = some (decide (0 ≤ a ∧ 0 ≤ b ∧ 0 ≤ c)) := by
  unfold split_Owed_Right.f
  by_cases h1 : a ≥ 0
  · rw [if_pos h1]
    by_cases h2 : b ≥ 0
    · rw [if_pos h2]
      congr 1
      rw [decide_eq_decide]
      omega
    · rw [if_neg h2]
      congr 1
      symm
      rw [decide_eq_false_iff_not]
      omega
  · rw [if_neg h1]
    congr 1
    symm
    rw [decide_eq_false_iff_not]
    omega
theorem right_yes {a b c : Int} (h1 : 0 ≤ a) (h2 : 0 ≤ b) (h3 : 0 ≤ c) : split_Owed_Right.f a b c = some true := by
  rw [right_eq, decide_eq_true ⟨h1, h2, h3⟩]
theorem right_no {a b c : Int} (h : ¬ (0 ≤ a ∧ 0 ≤ b ∧ 0 ≤ c)) : split_Owed_Right.f a b c = some false := by
  rw [right_eq, decide_eq_false h]
/-- part: as much as is owed, and what is left. -/
theorem part_eq (o a : Int) (h0 : 0 ≤ o) (h1 : 0 ≤ a) (h2 : a ≤ 9223372036854775807) :
    ∃ x r, split_part.f o a = some (x, r) ∧ (x = o ∧ o ≤ a ∨ x = a ∧ a < o) ∧ r = a - x := by
  unfold split_part.f coin_Coin_Least.f
  refine ⟨mn o a, a - mn o a, ?_, ?_, rfl⟩
  · simp only [Option.bind_some]
    have : wrap64 (a - mn o a) = a - mn o a := by unfold wrap64 mn; split <;> omega
    rw [this]
  · unfold mn; split <;> omega
theorem pay_ok (k : Nat) (f i p a : Int) (hf : 0 ≤ f) (hi : 0 ≤ i) (hp : 0 ≤ p) (ha : 0 ≤ a) (hb : a ≤ 9223372036854775807) :
    ∃ x y z r, split_Owed_Pay.f (k + 1) f i p a = some (x, y, z, r, none) ∧ (x = f ∧ f ≤ a ∨ x = a ∧ a < f) ∧ (y = i ∧ i ≤ a - x ∨ y = a - x ∧ a - x < i) ∧ (z = p ∧ p ≤ a - x - y ∨ z = a - x - y ∧ a - x - y < p) ∧ r = a - x - y - z := by
  obtain ⟨x, r1, e1, c1, d1⟩ := part_eq f a hf ha hb
  obtain ⟨y, r2, e2, c2, d2⟩ := part_eq i r1 hi (by omega) (by omega)
  obtain ⟨z, r3, e3, c3, d3⟩ := part_eq p r2 hp (by omega) (by omega)
  refine ⟨x, y, z, r3, ?_, c1, by omega, by omega, by omega⟩
  unfold split_Owed_Pay.f split_Owed_From.f
  rw [right_yes hf hi hp]
  simp only [Option.bind_some, if_true, split_Owed_From.j0]
  rw [if_neg (by simp; omega), e1]
  simp only [Option.bind_some]
  rw [e2]
  simp only [Option.bind_some]
  rw [e3]
  rfl
theorem pay_bad (k : Nat) (f i p a : Int) (h : ¬ (0 ≤ f ∧ 0 ≤ i ∧ 0 ≤ p ∧ 0 ≤ a)) : split_Owed_Pay.f (k + 1) f i p a = some (0, 0, 0, 0, some 1) := by
  unfold split_Owed_Pay.f split_Owed_From.f
  by_cases hr : 0 ≤ f ∧ 0 ≤ i ∧ 0 ≤ p
  · rw [right_yes hr.1 hr.2.1 hr.2.2]
    simp only [Option.bind_some, if_true, split_Owed_From.j0]
    rw [if_pos (by simp; omega)]
    rfl
  · rw [right_no hr]
    simp only [Option.bind_some, split_Owed_From.j0, Bool.false_eq_true, if_false, if_true]
theorem awake_yes (k : Nat) : arrearslaw11_awake.f (k + 1) = some true := by
  unfold arrearslaw11_awake.f
  obtain ⟨x, y, z, r, e, h1, h2, h3, h4⟩ := pay_ok k 5 10 100 20 (by omega) (by omega) (by omega) (by omega) (by omega)
  rw [e]
  obtain rfl : x = 5 := by omega
  obtain rfl : y = 10 := by omega
  obtain rfl : z = 5 := by omega
  obtain rfl : r = 0 := by omega
  rfl

theorem took {o a x : Int} (h : x = o ∧ o ≤ a ∨ x = a ∧ a < o) (ho : 0 ≤ o) (ha : 0 ≤ a) : 0 ≤ x ∧ x ≤ o ∧ x ≤ a := by omega
theorem less_ok (f i p x y z : Int) (hf : 0 ≤ f) (hi : 0 ≤ i) (hp : 0 ≤ p) (bf : f ≤ 9223372036854775807) (bi : i ≤ 9223372036854775807) (bp : p ≤ 9223372036854775807) (hx : 0 ≤ x) (hy : 0 ≤ y) (hz : 0 ≤ z) (lx : x ≤ f) (ly : y ≤ i) (lz : z ≤ p) :
    split_Owed_Less.f f i p x y z = some (f - x, i - y, p - z, none) := by
  unfold split_Owed_Less.f
  have w1 : wrap64 (f - x) = f - x := by unfold wrap64; omega
  have w2 : wrap64 (i - y) = i - y := by unfold wrap64; omega
  have w3 : wrap64 (p - z) = p - z := by unfold wrap64; omega
  rw [right_yes hf hi hp, w1, w2, w3]
  simp only [Option.bind_some, if_true]
  rw [right_yes hx hy hz]
  simp only [Option.bind_some, if_true]
  rw [right_yes (by omega) (by omega) (by omega)]
  rfl
theorem pure_proved : arrearslaw11_SplitAdds.Pure := by
  intro f i p a hf hi hp ha
  refine ⟨1, ?_⟩
  unfold arrearslaw11_SplitAdds.f
  rw [awake_yes 0]
  simp only [Option.bind_some, if_true]
  by_cases h : 0 ≤ f ∧ 0 ≤ i ∧ 0 ≤ p ∧ 0 ≤ a
  · obtain ⟨x, y, z, r, e, h1, h2, h3, h4⟩ := pay_ok 0 f i p a h.1 h.2.1 h.2.2.1 h.2.2.2 ha.2
    have t1 := took h1 h.1 h.2.2.2
    have t2 := took h2 h.2.1 (by omega)
    have t3 := took h3 h.2.2.1 (by omega)
    rw [e]
    simp only [Option.bind_some, Option.isNone_none, if_true]
    rw [less_ok f i p x y z h.1 h.2.1 h.2.2.1 hf.2 hi.2 hp.2 t1.1 t2.1 t3.1 t1.2.1 t2.2.1 t3.2.1]
    simp only [Option.bind_some, Option.isNone_none, if_true]
    have w1 : wrap64 (x + y) = x + y := by unfold wrap64; omega
    have w2 : wrap64 (x + y + z) = x + y + z := by unfold wrap64; omega
    have w3 : wrap64 (x + y + z + r) = a := by unfold wrap64; omega
    have w4 : wrap64 (f - x + x) = f := by unfold wrap64; omega
    have w5 : wrap64 (i - y + y) = i := by unfold wrap64; omega
    have w6 : wrap64 (p - z + z) = p := by unfold wrap64; omega
    rw [w1, w2, w3, w4, w5, w6]
    simp only [if_true]
    rw [if_neg (by omega)]
    by_cases c : r = 0
    · rw [if_pos c]
    · rw [if_neg c]
      have z1 : f - x = 0 := by omega
      have z2 : i - y = 0 := by omega
      have z3 : p - z = 0 := by omega
      rw [z1, z2, z3]
      rfl
  · rw [pay_bad 0 f i p a h]
    rfl

end Go.Proofs.YtbncddmmngcdkaaDoor.PSplitAdds
