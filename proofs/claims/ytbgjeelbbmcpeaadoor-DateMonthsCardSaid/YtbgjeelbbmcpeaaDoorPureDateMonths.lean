/- The pure statement behind the law DateMonths, over numbers and lists alone. Conditions: those that the printed statement names (each number is of its kind). -/
import Derived.Test.YtbgjeelbbmcpeaaDoorDDateMonths
import Derived.Test.YtbgjeelbbmcpeaaDoorMcal
set_option linter.unusedVariables false
set_option linter.unusedSimpArgs false
namespace Go.Proofs.YtbgjeelbbmcpeaaDoor.PDateMonths
open Go.RowKit Go.Proofs.YtbgjeelbbmcpeaaDoorW.PrintWords Go.Proofs.YtbgjeelbbmcpeaaDoorW.PrintLast Go.Proofs.YtbgjeelbbmcpeaaDoorW.PrintMore Go.Proofs.YtbgjeelbbmcpeaaDoor.M

theorem w64_ (x : Int) (h0 : -1000000000000000 ≤ x) (h1 : x ≤ 1000000000000000) : wrap64 x = x := by unfold wrap64; omega
theorem leap_eq (y : Int) (h1 : 1 ≤ y) (h2 : y ≤ 9999) : date_Leap.f y = some (isLeap y) := by
  unfold date_Leap.f isLeap
  rw [if_pos (by omega), if_pos (by omega), tmod0 (by omega), tmod0 (by omega), tmod0 (by omega)]
  by_cases c : y % 4 = 0
  · rw [if_pos c]
    by_cases c1 : y % 100 = 0
    · rw [if_pos c1]
      refine congrArg some ?_
      rw [Bool.eq_iff_iff]
      simp
      omega
    · rw [if_neg c1, decide_eq_true ⟨c, .inl c1⟩]
  · rw [if_neg c, decide_eq_false (by omega)]
theorem length_eq (k : Nat) (hk : 2 ≤ k) (y m : Int) (hy : 1 ≤ y ∧ y ≤ 9999) (hm : 1 ≤ m ∧ m ≤ 12) : date_Length.f k y m = some (mlen y m) := by
  obtain ⟨k, rfl⟩ : ∃ j, k = j + 2 := ⟨k - 2, by omega⟩
  unfold date_Length.f mlen
  rw [if_neg (by omega), if_neg (by omega), if_neg (by omega), decide_eq_false (by omega)]
  simp only [date_Length.j0, date_Length.j1, Bool.false_eq_true, if_false]
  have hl := leap_eq y hy.1 hy.2
  by_cases c4 : m = 4
  · subst c4; rfl
  rw [if_neg c4]
  by_cases c6 : m = 6
  · subst c6; rfl
  rw [if_neg c6]
  by_cases c9 : m = 9
  · subst c9; rfl
  rw [if_neg c9]
  by_cases c11 : m = 11
  · subst c11; rfl
  rw [beq_eq_false_iff_ne.2 c11]
  simp only [Bool.false_eq_true, if_false]
  have hne : ¬ (m = 4 ∨ m = 6 ∨ m = 9 ∨ m = 11) := by omega
  rw [if_neg hne]
  by_cases c2 : m = 2
  · rw [if_pos c2, if_pos c2, hl]
    simp only [Option.bind_some]
    unfold lp
    cases isLeap y <;> rfl
  · rw [if_neg c2, if_neg c2]
theorem length_no (k : Nat) (hk : 1 ≤ k) (y m : Int) (h : ¬ ((1 ≤ y ∧ y ≤ 9999) ∧ (1 ≤ m ∧ m ≤ 12))) : date_Length.f k y m = some 0 := by
  obtain ⟨k, rfl⟩ : ∃ j, k = j + 1 := ⟨k - 1, by omega⟩
  have e : date_Length.j0 (k + 1) y m true = some 0 := by simp only [date_Length.j0, if_true]
  unfold date_Length.f
  by_cases c1 : y < 1
  · rw [if_pos c1, e]
  rw [if_neg c1]
  by_cases c2 : y > 9999
  · rw [if_pos c2, e]
  rw [if_neg c2]
  by_cases c3 : m < 1
  · rw [if_pos c3, e]
  rw [if_neg c3, decide_eq_true (by omega), e]
/-- Is there such a date? -/
def realDate (y m d : Int) : Prop := (1 ≤ y ∧ y ≤ 9999) ∧ (1 ≤ m ∧ m ≤ 12) ∧ (1 ≤ d ∧ d ≤ mlen y m)
instance (y m d : Int) : Decidable (realDate y m d) := by unfold realDate; infer_instance
theorem right_yes (k : Nat) (hk : 2 ≤ k) (y m d : Int) (h : realDate y m d) : date_Civil_Right.f k y m d = some true := by
  obtain ⟨hy, hm, hd⟩ := h
  unfold date_Civil_Right.f
  rw [if_pos (by omega), length_eq k hk y m hy hm]
  simp only [Option.bind_some]
  rw [decide_eq_true hd.2]
theorem right_no (k : Nat) (hk : 2 ≤ k) (y m d : Int) (h : ¬ realDate y m d) : date_Civil_Right.f k y m d = some false := by
  unfold date_Civil_Right.f
  by_cases c : d ≥ 1
  · rw [if_pos c]
    by_cases c2 : (1 ≤ y ∧ y ≤ 9999) ∧ (1 ≤ m ∧ m ≤ 12)
    · rw [length_eq k hk y m c2.1 c2.2]
      simp only [Option.bind_some]
      rw [decide_eq_false (fun h2 => h ⟨c2.1, c2.2, c, h2⟩)]
    · rw [length_no k (by omega) y m c2]
      simp only [Option.bind_some]
      rw [decide_eq_false (by omega)]
  · rw [if_neg c]
theorem right_eq (k : Nat) (hk : 2 ≤ k) (y m d : Int) : date_Civil_Right.f k y m d = some (decide (realDate y m d)) := by
  by_cases h : realDate y m d
  · rw [right_yes k hk y m d h, decide_eq_true h]
  · rw [right_no k hk y m d h, decide_eq_false h]
/-- So many months on, of a date that there is. -/
theorem months_ok (k : Nat) (hk : 4 ≤ k) (y m d n : Int) (h : realDate y m d) (hn : -119988 ≤ n ∧ n ≤ 119988) (h0 : 0 ≤ (y - 1) * 12 + m - 1 + n) (h1 : (y - 1) * 12 + m - 1 + n < 119988) :
    date_Civil_Months.f k y m d n = some (((y - 1) * 12 + m - 1 + n) / 12 + 1, ((y - 1) * 12 + m - 1 + n) % 12 + 1, mn d (mlen (((y - 1) * 12 + m - 1 + n) / 12 + 1) (((y - 1) * 12 + m - 1 + n) % 12 + 1)), none) := by
  have hr := h
  obtain ⟨hy, hm, hd⟩ := h
  obtain ⟨k, rfl⟩ : ∃ j, k = j + 1 := ⟨k - 1, by omega⟩
  unfold date_Civil_Months.f
  rw [right_yes _ (by omega) y m d hr]
  simp only [Option.bind_some, if_true]
  rw [if_neg (by omega), decide_eq_false (by omega)]
  simp only [date_Civil_Months.j0, Bool.false_eq_true, if_false]
  rw [w64_ (y - 1) (by omega) (by omega), w64_ ((y - 1) * 12) (by omega) (by omega), w64_ ((y - 1) * 12 + m) (by omega) (by omega), w64_ ((y - 1) * 12 + m - 1) (by omega) (by omega), w64_ ((y - 1) * 12 + m - 1 + n) (by omega) (by omega)]
  generalize (y - 1) * 12 + m - 1 + n = t at *
  rw [if_neg (by omega), if_neg (by omega), tdiv0 h0, tmod0 h0, w64_ (t / 12) (by omega) (by omega), w64_ (t / 12 + 1) (by omega) (by omega), w64_ (t % 12 + 1) (by omega) (by omega), length_eq k (by omega) _ _ (by omega) (by omega)]
  rfl
theorem months_over (k : Nat) (hk : 4 ≤ k) (y m d n : Int) (h : realDate y m d) (hb : -9223372036854775808 ≤ n ∧ n ≤ 9223372036854775807) (hn : ¬ ((-119988 ≤ n ∧ n ≤ 119988) ∧ (0 ≤ (y - 1) * 12 + m - 1 + n ∧ (y - 1) * 12 + m - 1 + n < 119988))) :
    date_Civil_Months.f k y m d n = some (0, 0, 0, some 12) := by
  have hr := h
  obtain ⟨hy, hm, hd⟩ := h
  obtain ⟨k, rfl⟩ : ∃ j, k = j + 1 := ⟨k - 1, by omega⟩
  unfold date_Civil_Months.f
  rw [right_yes _ (by omega) y m d hr]
  simp only [Option.bind_some, if_true]
  by_cases c1 : n < -119988
  · rw [if_pos c1]; simp only [date_Civil_Months.j0, if_true]
  rw [if_neg c1]
  by_cases c2 : n > 119988
  · rw [decide_eq_true c2]; simp only [date_Civil_Months.j0, if_true]
  rw [decide_eq_false c2]
  simp only [date_Civil_Months.j0, Bool.false_eq_true, if_false]
  rw [w64_ (y - 1) (by omega) (by omega), w64_ ((y - 1) * 12) (by omega) (by omega), w64_ ((y - 1) * 12 + m) (by omega) (by omega), w64_ ((y - 1) * 12 + m - 1) (by omega) (by omega), w64_ ((y - 1) * 12 + m - 1 + n) (by omega) (by omega)]
  by_cases c3 : (y - 1) * 12 + m - 1 + n < 0
  · rw [if_pos c3]
  rw [if_neg c3, if_pos (by omega)]
theorem months_arg (k : Nat) (hk : 4 ≤ k) (y m d n : Int) (h : ¬ realDate y m d) : date_Civil_Months.f k y m d n = some (0, 0, 0, some 1) := by
  unfold date_Civil_Months.f
  rw [right_no _ (by omega) y m d h]
  rfl
theorem awake_yes (k : Nat) (hk : 4 ≤ k) : arrearslaw05_awake.f k = some true := by
  unfold arrearslaw05_awake.f
  rw [months_ok k hk 2024 1 31 1 (by decide) (by omega) (by omega) (by omega)]
  decide +kernel

theorem refleap_eq (y : Int) (h1 : 1 ≤ y) (h2 : y ≤ 9999) : arrearsref05_Leap.f y = some (isLeap y) := by
  unfold arrearsref05_Leap.f isLeap
  rw [if_neg (by omega), if_neg (by omega), tmod0 (by omega), tmod0 (by omega), tmod0 (by omega)]
  by_cases c : y % 4 > 0
  · rw [if_pos c, decide_eq_false (by omega)]
  · rw [if_neg c]
    by_cases c1 : y % 100 > 0
    · rw [if_pos c1, decide_eq_true ⟨by omega, .inl (by omega)⟩]
    · rw [if_neg c1]
      refine congrArg some ?_
      rw [Bool.eq_iff_iff]
      simp
      omega
theorem reflength_eq (k : Nat) (hk : 1 ≤ k) (y m : Int) (hy : 1 ≤ y ∧ y ≤ 9999) (hm : 1 ≤ m ∧ m ≤ 12) : arrearsref05_Length.f k y m = some (mlen y m) := by
  obtain ⟨k, rfl⟩ : ∃ j, k = j + 1 := ⟨k - 1, by omega⟩
  unfold arrearsref05_Length.f
  rw [if_neg (by omega), if_neg (by omega), if_neg (by omega), decide_eq_false (by omega)]
  simp only [arrearsref05_Length.j0, Bool.false_eq_true, if_false, Option.bind_some]
  rw [w64_ (m - 1) (by omega) (by omega), if_pos (by omega), if_pos (by simp; omega), refleap_eq y hy.1 hy.2]
  simp only [Option.bind_some]
  have : m = 1 ∨ m = 2 ∨ m = 3 ∨ m = 4 ∨ m = 5 ∨ m = 6 ∨ m = 7 ∨ m = 8 ∨ m = 9 ∨ m = 10 ∨ m = 11 ∨ m = 12 := by omega
  rcases this with rfl | rfl | rfl | rfl | rfl | rfl | rfl | rfl | rfl | rfl | rfl | rfl
  case inr.inl =>
    rw [if_pos rfl]
    unfold mlen lp
    cases isLeap y <;> decide +kernel
  all_goals rfl
theorem reflength_no (k : Nat) (hk : 1 ≤ k) (y m : Int) (h : ¬ ((1 ≤ y ∧ y ≤ 9999) ∧ (1 ≤ m ∧ m ≤ 12))) : arrearsref05_Length.f k y m = some 0 := by
  obtain ⟨k, rfl⟩ : ∃ j, k = j + 1 := ⟨k - 1, by omega⟩
  have e : arrearsref05_Length.j0 (k + 1) y m true = some 0 := by simp only [arrearsref05_Length.j0, if_true]
  unfold arrearsref05_Length.f
  by_cases c1 : y < 1
  · rw [if_pos c1, e]
  rw [if_neg c1]
  by_cases c2 : y > 9999
  · rw [if_pos c2, e]
  rw [if_neg c2]
  by_cases c3 : m < 1
  · rw [if_pos c3, e]
  rw [if_neg c3, decide_eq_true (by omega), e]
theorem refright_eq (k : Nat) (hk : 1 ≤ k) (y m d : Int) : arrearsref05_Right.f k y m d = some (decide (realDate y m d)) := by
  unfold arrearsref05_Right.f
  by_cases c : d > 0
  · rw [if_pos c]
    by_cases c2 : (1 ≤ y ∧ y ≤ 9999) ∧ (1 ≤ m ∧ m ≤ 12)
    · rw [reflength_eq k hk y m c2.1 c2.2]
      simp only [Option.bind_some]
      by_cases c3 : d ≤ mlen y m
      · rw [decide_eq_true c3, decide_eq_true (show realDate y m d from ⟨c2.1, c2.2, by omega, c3⟩)]
      · rw [decide_eq_false c3, decide_eq_false (fun h : realDate y m d => c3 h.2.2.2)]
    · rw [reflength_no k hk y m c2]
      simp only [Option.bind_some]
      rw [decide_eq_false (by omega), decide_eq_false (fun h : realDate y m d => c2 ⟨h.1, h.2.1⟩)]
  · rw [if_neg c, decide_eq_false (fun h : realDate y m d => c (by have := h.2.2.1; omega))]

theorem next_on (k : Nat) (hk : 1 ≤ k) (s : Int) (hs : -1000000 ≤ s ∧ s ≤ 1000000) : arrearsref05_Next.f k (s / 12 + 1) (s % 12 + 1) false = some ((s + 1) / 12 + 1, (s + 1) % 12 + 1) := by
  obtain ⟨k, rfl⟩ : ∃ q, k = q + 1 := ⟨k - 1, by omega⟩
  unfold arrearsref05_Next.f
  simp only [Bool.false_eq_true, if_false, arrearsref05_Next.j0]
  by_cases c : s % 12 + 1 = 12
  · rw [if_pos c, w64_ _ (by omega) (by omega)]
    rw [show (s + 1) / 12 = s / 12 + 1 by omega, show (s + 1) % 12 = 0 by omega]
    rfl
  · rw [if_neg c, w64_ _ (by omega) (by omega)]
    rw [show (s + 1) / 12 = s / 12 by omega, show (s + 1) % 12 = s % 12 + 1 by omega]
theorem next_back (k : Nat) (hk : 1 ≤ k) (s : Int) (hs : -1000000 ≤ s ∧ s ≤ 1000000) : arrearsref05_Next.f k (s / 12 + 1) (s % 12 + 1) true = some ((s - 1) / 12 + 1, (s - 1) % 12 + 1) := by
  obtain ⟨k, rfl⟩ : ∃ q, k = q + 1 := ⟨k - 1, by omega⟩
  unfold arrearsref05_Next.f
  simp only [if_true, arrearsref05_Next.j0]
  by_cases c : s % 12 + 1 = 1
  · rw [beq_iff_eq.2 c]
    simp only [if_true]
    rw [w64_ _ (by omega) (by omega), show (s - 1) / 12 = s / 12 - 1 by omega, show (s - 1) % 12 = 11 by omega]
    rw [show s / 12 + 1 - 1 = s / 12 - 1 + 1 by omega]
    rfl
  · rw [beq_eq_false_iff_ne.2 c]
    simp only [Bool.false_eq_true, if_false]
    rw [w64_ _ (by omega) (by omega), show (s - 1) / 12 = s / 12 by omega, show (s - 1) % 12 = s % 12 - 1 by omega]
    rw [show s % 12 + 1 - 1 = s % 12 - 1 + 1 by omega]
/-- The document's date of a month's number. -/
def monthDate (t d : Int) : Int × Int × Int × Int := if 0 ≤ t ∧ t < 119988 then (t / 12 + 1, t % 12 + 1, mn d (mlen (t / 12 + 1) (t % 12 + 1)), 0) else (0, 0, 0, 12)
theorem refmonths_l1 (y m d : Int) : ∀ (j k : Nat) (s : Int), j + 4 < k → j ≤ 2000 → -200000 + (j : Int) ≤ s ∧ s ≤ 200000 →
    arrearsref05_Months.l1 k (-(j : Int)) (s / 12 + 1) (s % 12 + 1) y m d = some (monthDate (s - j) d) := by
  intro j
  induction j with
  | zero =>
    intro k s hk _ hs
    obtain ⟨k, rfl⟩ : ∃ q, k = q + 1 := ⟨k - 1, by omega⟩
    simp only [arrearsref05_Months.l1]
    rw [if_neg (by omega), show s - ((0 : Nat) : Int) = s by omega]
    unfold monthDate
    by_cases c : 0 ≤ s ∧ s < 119988
    · rw [if_pos c, if_neg (by omega), if_neg (by omega), reflength_eq k (by omega) _ _ (by omega) (by omega)]
      rfl
    · rw [if_neg c]
      by_cases c2 : s / 12 + 1 < 1
      · rw [if_pos c2]
      · rw [if_neg c2, if_pos (by omega)]
  | succ j ih =>
    intro k s hk hj hs
    obtain ⟨k, rfl⟩ : ∃ q, k = q + 1 := ⟨k - 1, by omega⟩
    simp only [arrearsref05_Months.l1]
    rw [if_pos (by omega), next_back k (by omega) s (by omega)]
    simp only [Option.bind_some]
    rw [w64_ _ (by omega) (by omega), show -((j + 1 : Nat) : Int) + 1 = -(j : Int) by omega, ih k (s - 1) (by omega) (by omega) (by omega), show s - 1 - (j : Int) = s - ((j + 1 : Nat) : Int) by omega]
theorem refmonths_l0 (y m d : Int) : ∀ (j k : Nat) (s : Int), j + 6 < k → j ≤ 2000 → -150000 ≤ s ∧ s + (j : Int) ≤ 150000 →
    arrearsref05_Months.l0 k (j : Int) (s / 12 + 1) (s % 12 + 1) y m d = some (monthDate (s + j) d) := by
  intro j
  induction j with
  | zero =>
    intro k s hk _ hs
    obtain ⟨k, rfl⟩ : ∃ q, k = q + 1 := ⟨k - 1, by omega⟩
    simp only [arrearsref05_Months.l0]
    rw [if_neg (by omega)]
    have := refmonths_l1 y m d 0 k s (by omega) (by omega) (by omega)
    rw [show -((0 : Nat) : Int) = ((0 : Nat) : Int) by omega] at this
    rw [this, show s - ((0 : Nat) : Int) = s + ((0 : Nat) : Int) by omega]
  | succ j ih =>
    intro k s hk hj hs
    obtain ⟨k, rfl⟩ : ∃ q, k = q + 1 := ⟨k - 1, by omega⟩
    simp only [arrearsref05_Months.l0]
    rw [if_pos (by omega), next_on k (by omega) s (by omega)]
    simp only [Option.bind_some]
    rw [w64_ _ (by omega) (by omega), show ((j + 1 : Nat) : Int) - 1 = (j : Int) by omega, ih k (s + 1) (by omega) (by omega) (by omega), show s + 1 + (j : Int) = s + ((j + 1 : Nat) : Int) by omega]
theorem refmonths_ok (k : Nat) (hk : 3000 ≤ k) (y m d n : Int) (hy : 1 ≤ y ∧ y ≤ 9999) (hm : 1 ≤ m ∧ m ≤ 12) (hn : -1500 ≤ n ∧ n ≤ 1500) : arrearsref05_Months.f k y m d n = some (monthDate ((y - 1) * 12 + m - 1 + n) d) := by
  unfold arrearsref05_Months.f
  have e1 : ((y - 1) * 12 + m - 1) / 12 + 1 = y := by omega
  have e2 : ((y - 1) * 12 + m - 1) % 12 + 1 = m := by omega
  by_cases c : 0 ≤ n
  · have := refmonths_l0 y m d n.toNat k ((y - 1) * 12 + m - 1) (by omega) (by omega) (by omega)
    rw [e1, e2, show ((n.toNat : Nat) : Int) = n by omega] at this
    exact this
  · obtain ⟨k, rfl⟩ : ∃ q, k = q + 1 := ⟨k - 1, by omega⟩
    simp only [arrearsref05_Months.l0]
    rw [if_neg (by omega)]
    have := refmonths_l1 y m d (-n).toNat k ((y - 1) * 12 + m - 1) (by omega) (by omega) (by omega)
    rw [e1, e2, show -(((-n).toNat : Nat) : Int) = n by omega, show (y - 1) * 12 + m - 1 - (((-n).toNat : Nat) : Int) = (y - 1) * 12 + m - 1 + n by omega] at this
    exact this
theorem real_out (t d : Int) (h : 0 ≤ t ∧ t < 119988) (hd : 1 ≤ d) : realDate (t / 12 + 1) (t % 12 + 1) (mn d (mlen (t / 12 + 1) (t % 12 + 1))) := by
  have hl := mlen_bd (t / 12 + 1) (t % 12 + 1)
  refine ⟨by omega, by omega, ?_⟩
  unfold mn; split <;> omega
theorem pure_proved : arrearslaw05_DateMonths.Pure := by
  intro y m d n hy hm hd hn
  refine ⟨3100, ?_⟩
  unfold arrearslaw05_DateMonths.f
  rw [awake_yes _ (by omega), refright_eq _ (by omega)]
  simp only [Option.bind_some, if_true]
  by_cases h : realDate y m d
  · rw [decide_eq_true h]
    simp only [if_true]
    obtain ⟨ry, rm, rd_⟩ := h
    by_cases hin : (-119988 ≤ n ∧ n ≤ 119988) ∧ (0 ≤ (y - 1) * 12 + m - 1 + n ∧ (y - 1) * 12 + m - 1 + n < 119988)
    · rw [months_ok _ (by omega) y m d n ⟨ry, rm, rd_⟩ hin.1 hin.2.1 hin.2.2]
      have hout := real_out ((y - 1) * 12 + m - 1 + n) d hin.2 rd_.1
      simp only [Option.bind_some]
      have far : arrearslaw05_DateMonths.j0 3100 n none true y m d y m d (((y - 1) * 12 + m - 1 + n) / 12 + 1) (((y - 1) * 12 + m - 1 + n) % 12 + 1) (mn d (mlen (((y - 1) * 12 + m - 1 + n) / 12 + 1) (((y - 1) * 12 + m - 1 + n) % 12 + 1))) = some true := by
        simp only [arrearslaw05_DateMonths.j0, if_true, Option.isNone_none]
        rw [right_yes _ (by omega) _ _ _ hout]
        rfl
      by_cases c1 : n < -1500
      · rw [if_pos c1, far]
      rw [if_neg c1]
      by_cases c2 : n > 1500
      · rw [decide_eq_true c2, far]
      rw [decide_eq_false c2]
      simp only [arrearslaw05_DateMonths.j0, Bool.false_eq_true, if_false]
      rw [refmonths_ok _ (by omega) y m d n ry rm (by omega)]
      have eb : ((((y - 1) * 12 + m - 1 + n) / 12 + 1 - 1) * 12 + (((y - 1) * 12 + m - 1 + n) % 12 + 1) - 1 + -n) = (y - 1) * 12 + m - 1 := by omega
      have hb := months_ok 3099 (by omega) (((y - 1) * 12 + m - 1 + n) / 12 + 1) (((y - 1) * 12 + m - 1 + n) % 12 + 1) (mn d (mlen (((y - 1) * 12 + m - 1 + n) / 12 + 1) (((y - 1) * 12 + m - 1 + n) % 12 + 1))) (-n) hout (by omega) (by omega) (by omega)
      rw [eb, show ((y - 1) * 12 + m - 1) / 12 + 1 = y by omega, show ((y - 1) * 12 + m - 1) % 12 + 1 = m by omega] at hb
      rw [w64_ (-n) (by omega) (by omega), hb]
      unfold monthDate
      rw [if_pos hin.2]
      simp only [Option.bind_some, if_true, Option.isNone_none, beq_self_eq_true, Bool.and_self]
      refine congrArg some (decide_eq_true ?_)
      unfold mn; (repeat' split) <;> omega
    · rw [months_over _ (by omega) y m d n ⟨ry, rm, rd_⟩ hn hin]
      simp only [Option.bind_some]
      have far : arrearslaw05_DateMonths.j0 3100 n (some 12) true y m d y m d 0 0 0 = some true := by
        simp only [arrearslaw05_DateMonths.j0, if_true, Option.isNone_some, Bool.false_eq_true, if_false]
        rw [right_no _ (by omega) _ _ _ (by decide)]
        rfl
      by_cases c1 : n < -1500
      · rw [if_pos c1, far]
      rw [if_neg c1]
      by_cases c2 : n > 1500
      · rw [decide_eq_true c2, far]
      rw [decide_eq_false c2]
      simp only [arrearslaw05_DateMonths.j0, Bool.false_eq_true, if_false]
      rw [refmonths_ok _ (by omega) y m d n ry rm (by omega)]
      unfold monthDate
      rw [if_neg (fun hc => hin ⟨by omega, hc⟩)]
      rfl
  · rw [decide_eq_false h, months_arg _ (by omega) y m d n h]
    rfl

end Go.Proofs.YtbgjeelbbmcpeaaDoor.PDateMonths
