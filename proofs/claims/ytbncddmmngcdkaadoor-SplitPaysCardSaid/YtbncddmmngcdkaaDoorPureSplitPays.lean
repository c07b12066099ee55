/- The pure statement behind the law SplitPays, over numbers and lists alone. Conditions: those that the printed statement names (each number is of its kind). -/
import Derived.Test.YtbncddmmngcdkaaDoorDSplitPays
set_option linter.unusedVariables false
set_option linter.unusedSimpArgs false
namespace Go.Proofs.YtbncddmmngcdkaaDoor.PSplitPays
open Go.RowKit Go.Proofs.YtbncddmmngcdkaaDoorW.PrintWords Go.Proofs.YtbncddmmngcdkaaDoorW.PrintLast Go.Proofs.YtbncddmmngcdkaaDoorW.PrintMore

theorem right_eq (a b c : Int) : split_Owed_Right.f a b c = some (decide (0 ≤ a ∧ 0 ≤ b ∧ 0 ≤ c)) := by
  unfold split_Owed_Right.f
  by_cases h1 : a ≥ 0
  · rw [if_pos h1]
    by_cases h2 : b ≥ 0
    · rw [if_pos h2]
      congr 1
      rw [decide_eq_decide]
      omega
    · rw [if_neg h2]
      congr 1
      symm
      rw [decide_eq_false_iff_not]
      omega
  · rw [if_neg h1]
    congr 1
    symm
    rw [decide_eq_false_iff_not]
    omega
theorem right_yes {a b c : Int} (h1 : 0 ≤ a) (h2 : 0 ≤ b) (h3 : 0 ≤ c) : split_Owed_Right.f a b c = some true := by
  rw [right_eq, decide_eq_true ⟨h1, h2, h3⟩]
theorem right_no {a b c : Int} (h : ¬ (0 ≤ a ∧ 0 ≤ b ∧ 0 ≤ c)) : split_Owed_Right.f a b c = some false := by
  rw [right_eq, decide_eq_false h]
/-- part: as much as is owed, and what is left. -/
theorem part_eq (o a : Int) (h0 : 0 ≤ o) (h1 : 0 ≤ a) (h2 : a ≤ 9223372036854775807) :
    ∃ x r, split_part.f o a = some (x, r) ∧ (x = o ∧ o ≤ a ∨ x = a ∧ a < o) ∧ r = a - x := by
  unfold split_part.f coin_Coin_Least.f
  refine ⟨mn o a, a - mn o a, ?_, ?_, rfl⟩
  · simp only [Option.bind_some]
    have : wrap64 (a - mn o a) = a - mn o a := by unfold wrap64 mn; split <;> omega
    rw [this]
  · unfold mn; split <;> omega
theorem pay_ok (k : Nat) (f i p a : Int) (hf : 0 ≤ f) (hi : 0 ≤ i) (hp : 0 ≤ p) (ha : 0 ≤ a) (hb : a ≤ 9223372036854775807) :
    ∃ x y z r, split_Owed_Pay.f (k + 1) f i p a = some (x, y, z, r, none) ∧ (x = f ∧ f ≤ a ∨ x = a ∧ a < f) ∧ (y = i ∧ i ≤ a - x ∨ y = a - x ∧ a - x < i) ∧ (z = p ∧ p ≤ a - x - y ∨ z = a - x - y ∧ a - x - y < p) ∧ r = a - x - y - z := by
  obtain ⟨x, r1, e1, c1, d1⟩ := part_eq f a hf ha hb
  obtain ⟨y, r2, e2, c2, d2⟩ := part_eq i r1 hi (by omega) (by omega)
  obtain ⟨z, r3, e3, c3, d3⟩ := part_eq p r2 hp (by omega) (by omega)
  refine ⟨x, y, z, r3, ?_, c1, by omega, by omega, by omega⟩
  unfold split_Owed_Pay.f split_Owed_From.f
  rw [right_yes hf hi hp]
  simp only [Option.bind_some, if_true, split_Owed_From.j0]
  rw [if_neg (by simp; omega), e1]
  simp only [Option.bind_some]
  rw [e2]
  simp only [Option.bind_some]
  rw [e3]
  rfl
theorem pay_bad (k : Nat) (f i p a : Int) (h : ¬ (0 ≤ f ∧ 0 ≤ i ∧ 0 ≤ p ∧ 0 ≤ a)) : split_Owed_Pay.f (k + 1) f i p a = some (0, 0, 0, 0, some 1) := by
  unfold split_Owed_Pay.f split_Owed_From.f
  by_cases hr : 0 ≤ f ∧ 0 ≤ i ∧ 0 ≤ p
  · rw [right_yes hr.1 hr.2.1 hr.2.2]
    simp only [Option.bind_some, if_true, split_Owed_From.j0]
    rw [if_pos (by simp; omega)]
    rfl
  · rw [right_no hr]
    simp only [Option.bind_some, split_Owed_From.j0, Bool.false_eq_true, if_false, if_true]
theorem awake_yes (k : Nat) : arrearslaw11_awake.f (k + 1) = some true := by
  unfold arrearslaw11_awake.f
  obtain ⟨x, y, z, r, e, h1, h2, h3, h4⟩ := pay_ok k 5 10 100 20 (by omega) (by omega) (by omega) (by omega) (by omega)
  rw [e]
  obtain rfl : x = 5 := by omega
  obtain rfl : y = 10 := by omega
  obtain rfl : z = 5 := by omega
  obtain rfl : r = 0 := by omega
  rfl

theorem part_l (o a : Int) (h0 : 0 ≤ o) (h1 : 0 ≤ a) (h2 : a ≤ 9223372036854775807) : split_part.f o a = some (arrearsref11_Parts.least o a, a - arrearsref11_Parts.least o a) := by
  obtain ⟨x, r, e, c, d⟩ := part_eq o a h0 h1 h2
  have hx : x = arrearsref11_Parts.least o a := by unfold arrearsref11_Parts.least; split <;> omega
  rw [e, d, hx]
theorem least_bd (o a : Int) (h0 : 0 ≤ o) (h1 : 0 ≤ a) : 0 ≤ arrearsref11_Parts.least o a ∧ arrearsref11_Parts.least o a ≤ a := by unfold arrearsref11_Parts.least; split <;> omega
theorem from_0 (k : Nat) (f i p a : Int) (hf : 0 ≤ f) (hi : 0 ≤ i) (hp : 0 ≤ p) (ha : 0 ≤ a) (hb : a ≤ 9223372036854775807) :
    split_Owed_From.f (k + 1) f i p 0 a = some (arrearsref11_Parts.least f a, arrearsref11_Parts.least i (a - arrearsref11_Parts.least f a), arrearsref11_Parts.least p (a - arrearsref11_Parts.least f a - arrearsref11_Parts.least i (a - arrearsref11_Parts.least f a)), a - arrearsref11_Parts.least f a - arrearsref11_Parts.least i (a - arrearsref11_Parts.least f a) - arrearsref11_Parts.least p (a - arrearsref11_Parts.least f a - arrearsref11_Parts.least i (a - arrearsref11_Parts.least f a)), none) := by
  have l1 := least_bd f a hf ha
  have l2 := least_bd i (a - arrearsref11_Parts.least f a) hi (by omega)
  unfold split_Owed_From.f
  rw [right_yes hf hi hp]
  simp only [Option.bind_some, if_true, split_Owed_From.j0]
  rw [if_neg (by simp; omega), part_l f a hf ha hb]
  simp only [Option.bind_some]
  rw [part_l i _ hi (by omega) (by omega)]
  simp only [Option.bind_some]
  rw [part_l p _ hp (by omega) (by omega)]
  rfl
theorem from_1 (k : Nat) (f i p a : Int) (hf : 0 ≤ f) (hi : 0 ≤ i) (hp : 0 ≤ p) (ha : 0 ≤ a) (hb : a ≤ 9223372036854775807) :
    split_Owed_From.f (k + 1) f i p 1 a = some (0, arrearsref11_Parts.least i a, arrearsref11_Parts.least p (a - arrearsref11_Parts.least i a), a - arrearsref11_Parts.least i a - arrearsref11_Parts.least p (a - arrearsref11_Parts.least i a), none) := by
  have l1 := least_bd i a hi ha
  unfold split_Owed_From.f
  rw [right_yes hf hi hp]
  simp only [Option.bind_some, if_true, split_Owed_From.j0]
  rw [if_neg (by simp; omega), if_neg (by decide), part_l i a hi ha hb]
  simp only [Option.bind_some]
  rw [part_l p _ hp (by omega) (by omega)]
  rfl
theorem from_2 (k : Nat) (f i p a : Int) (hf : 0 ≤ f) (hi : 0 ≤ i) (hp : 0 ≤ p) (ha : 0 ≤ a) (hb : a ≤ 9223372036854775807) :
    split_Owed_From.f (k + 1) f i p 2 a = some (0, 0, arrearsref11_Parts.least p a, a - arrearsref11_Parts.least p a, none) := by
  unfold split_Owed_From.f
  rw [right_yes hf hi hp]
  simp only [Option.bind_some, if_true, split_Owed_From.j0]
  rw [if_neg (by simp; omega), if_neg (by decide), if_neg (by decide), part_l p a hp ha hb]
  rfl
theorem from_bad (k : Nat) (f i p F a : Int) (h : ¬ (0 ≤ f ∧ 0 ≤ i ∧ 0 ≤ p ∧ 0 ≤ a) ∨ 2 < F) : split_Owed_From.f (k + 1) f i p F a = some (0, 0, 0, 0, some 1) := by
  unfold split_Owed_From.f
  by_cases hr : 0 ≤ f ∧ 0 ≤ i ∧ 0 ≤ p
  · rw [right_yes hr.1 hr.2.1 hr.2.2]
    simp only [Option.bind_some, if_true, split_Owed_From.j0]
    by_cases ha : a < 0
    · rw [if_pos (by simp; omega)]
    · rw [if_neg (by simp; omega), if_neg (by omega), if_neg (by omega), if_neg (by omega)]
  · rw [right_no hr]
    simp only [Option.bind_some, split_Owed_From.j0, Bool.false_eq_true, if_false, if_true]
theorem pay_from (k : Nat) (f i p a : Int) : split_Owed_Pay.f k f i p a = split_Owed_From.f k f i p 0 a := by
  unfold split_Owed_Pay.f
  cases split_Owed_From.f k f i p 0 a <;> rfl
theorem own_id (a b c : Int) (ha : -9223372036854775808 ≤ a ∧ a ≤ 9223372036854775807) (hb : -9223372036854775808 ≤ b ∧ b ≤ 9223372036854775807) (hc : -9223372036854775808 ≤ c ∧ c ≤ 9223372036854775807) : arrearslaw11_own.f a b c = some (a, b, c) := rfl
theorem bad_j0 (k : Nat) (f i p F a : Int) (h : ¬ (0 ≤ f ∧ 0 ≤ i ∧ 0 ≤ p ∧ 0 ≤ a)) (ha : 0 ≤ f ∧ 0 ≤ i ∧ 0 ≤ p → a < 0) : arrearslaw11_SplitPays.j0 (k + 1) F a 0 (some 1) 0 (some 1) true f i p 0 0 0 0 0 0 = some true := by
  simp only [arrearslaw11_SplitPays.j0, if_true]
  rw [right_eq]
  simp only [Option.bind_some, api_Code.f, Option.getD_some, if_true, beq_self_eq_true, Bool.and_self]
  by_cases c0 : f < 0
  · rw [if_pos c0, decide_eq_false (by omega)]; rfl
  · rw [if_neg c0]
    by_cases c1 : i < 0
    · rw [if_pos c1, decide_eq_false (by omega)]; rfl
    · rw [if_neg c1]
      by_cases c2 : p < 0
      · rw [decide_eq_false (by omega), decide_eq_true c2]; rfl
      · rw [decide_eq_true (show 0 ≤ f ∧ 0 ≤ i ∧ 0 ≤ p by omega), decide_eq_false c2]; rfl
theorem pure_proved : arrearslaw11_SplitPays.Pure := by
  intro f i p F a hf hi hp hF ha
  refine ⟨3, ?_⟩
  unfold arrearslaw11_SplitPays.f
  rw [awake_yes 2, pay_from]
  simp only [Option.bind_some, if_true]
  by_cases h : 0 ≤ f ∧ 0 ≤ i ∧ 0 ≤ p ∧ 0 ≤ a
  · obtain ⟨f0, i0, p0, a0⟩ := h
    have P0 : arrearsref11_Parts.f f i p 0 a = some (arrearsref11_Parts.least f a, arrearsref11_Parts.least i (a - arrearsref11_Parts.least f a), arrearsref11_Parts.least p (a - arrearsref11_Parts.least f a - arrearsref11_Parts.least i (a - arrearsref11_Parts.least f a)), a - arrearsref11_Parts.least f a - arrearsref11_Parts.least i (a - arrearsref11_Parts.least f a) - arrearsref11_Parts.least p (a - arrearsref11_Parts.least f a - arrearsref11_Parts.least i (a - arrearsref11_Parts.least f a))) := by
      unfold arrearsref11_Parts.f
      rw [if_pos (by omega), if_pos rfl]
    have P1 : arrearsref11_Parts.f f i p 1 a = some (0, arrearsref11_Parts.least i a, arrearsref11_Parts.least p (a - arrearsref11_Parts.least i a), a - arrearsref11_Parts.least i a - arrearsref11_Parts.least p (a - arrearsref11_Parts.least i a)) := by
      unfold arrearsref11_Parts.f
      rw [if_pos (by omega), if_neg (by decide), if_pos rfl]
    have P2 : arrearsref11_Parts.f f i p 2 a = some (0, 0, arrearsref11_Parts.least p a, a - arrearsref11_Parts.least p a) := by
      unfold arrearsref11_Parts.f
      rw [if_pos (by omega), if_neg (by decide), if_neg (by decide), if_pos rfl]
    have l1 := least_bd f a f0 a0
    have l2 := least_bd i (a - arrearsref11_Parts.least f a) i0 (by omega)
    have l3 := least_bd p (a - arrearsref11_Parts.least f a - arrearsref11_Parts.least i (a - arrearsref11_Parts.least f a)) p0 (by omega)
    have m1 := least_bd i a i0 a0
    have m2 := least_bd p (a - arrearsref11_Parts.least i a) p0 (by omega)
    have n1 := least_bd p a p0 a0
    have F0 := from_0 2 f i p a f0 i0 p0 a0 ha.2
    have F1 := from_1 2 f i p a f0 i0 p0 a0 ha.2
    have F2 := from_2 2 f i p a f0 i0 p0 a0 ha.2
    rw [F0]
    generalize arrearsref11_Parts.least p (a - arrearsref11_Parts.least f a - arrearsref11_Parts.least i (a - arrearsref11_Parts.least f a)) = z at *
    generalize arrearsref11_Parts.least i (a - arrearsref11_Parts.least f a) = y at *
    generalize arrearsref11_Parts.least f a = x at *
    generalize arrearsref11_Parts.least p (a - arrearsref11_Parts.least i a) = z1 at *
    generalize arrearsref11_Parts.least i a = y1 at *
    generalize arrearsref11_Parts.least p a = z2 at *
    have key : ∀ (u v s t : Int) (e : Option Int), arrearslaw11_SplitPays.j0 3 F a t e (a - x - y - z) none false f i p u v s x y z = arrearslaw11_SplitPays.j1 2 F a t e false f i p u v s := by
      intro u v s t e
      simp only [arrearslaw11_SplitPays.j0, Bool.false_eq_true, if_false]
      rw [own_id f i p hf hi hp]
      simp only [Option.bind_some]
      rw [P0]
      simp only [Option.bind_some, Option.isNone_none, if_true]
      rw [own_id x y z (by omega) (by omega) (by omega)]
      simp only [Option.bind_some, beq_self_eq_true, Bool.not_true, Bool.or_self, Bool.false_eq_true, if_false, bne_self_eq_false]
    have fin : ∀ (u v s t : Int), (-9223372036854775808 ≤ u ∧ u ≤ 9223372036854775807) → (-9223372036854775808 ≤ v ∧ v ≤ 9223372036854775807) → (-9223372036854775808 ≤ s ∧ s ≤ 9223372036854775807) → F ≤ 2 → arrearsref11_Parts.f f i p F a = some (u, v, s, t) → arrearslaw11_SplitPays.j1 2 F a t none false f i p u v s = some true := by
      intro u v s t hu hv hs hF2 e
      simp only [arrearslaw11_SplitPays.j1, Bool.false_eq_true, if_false]
      rw [if_neg (show ¬ F > 2 by omega), own_id f i p hf hi hp]
      simp only [Option.bind_some]
      rw [show wrap64 F = F by unfold wrap64; omega, e, right_yes f0 i0 p0]
      simp only [Option.bind_some, Option.isNone_none, if_true]
      rw [own_id u v s hu hv hs]
      simp only [Option.bind_some, beq_self_eq_true, Bool.and_self, if_true]
    by_cases k0 : F = 0
    · subst k0
      rw [F0]
      simp only [Option.bind_some]
      rw [if_neg (by omega), if_neg (by omega), if_neg (by omega), decide_eq_false (show ¬ a < 0 by omega), key]
      exact fin _ _ _ _ (by omega) (by omega) (by omega) (by omega) P0
    · by_cases k1 : F = 1
      · subst k1
        rw [F1]
        simp only [Option.bind_some]
        rw [if_neg (by omega), if_neg (by omega), if_neg (by omega), decide_eq_false (show ¬ a < 0 by omega), key]
        exact fin _ _ _ _ (by omega) (by omega) (by omega) (by omega) P1
      · by_cases k2 : F = 2
        · subst k2
          rw [F2]
          simp only [Option.bind_some]
          rw [if_neg (by omega), if_neg (by omega), if_neg (by omega), decide_eq_false (show ¬ a < 0 by omega), key]
          exact fin _ _ _ _ (by omega) (by omega) (by omega) (by omega) P2
        · rw [from_bad 2 f i p F a (.inr (by omega))]
          simp only [Option.bind_some]
          rw [if_neg (by omega), if_neg (by omega), if_neg (by omega), decide_eq_false (show ¬ a < 0 by omega), key]
          simp only [arrearslaw11_SplitPays.j1, Bool.false_eq_true, if_false]
          rw [if_pos (show F > 2 by omega)]
          rfl
  · rw [from_bad 2 f i p F a (.inl h), from_bad 2 f i p 0 a (.inl h)]
    simp only [Option.bind_some]
    have hb := bad_j0 2 f i p F a h (by omega)
    by_cases c0 : f < 0
    · rw [if_pos c0]; exact hb
    · rw [if_neg c0]
      by_cases c1 : i < 0
      · rw [if_pos c1]; exact hb
      · rw [if_neg c1]
        by_cases c2 : p < 0
        · rw [if_pos c2]; exact hb
        · rw [if_neg c2, decide_eq_true (show a < 0 by omega)]; exact hb

end Go.Proofs.YtbncddmmngcdkaaDoor.PSplitPays
