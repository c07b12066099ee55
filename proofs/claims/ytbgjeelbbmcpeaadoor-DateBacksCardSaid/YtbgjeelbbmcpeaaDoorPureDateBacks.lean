/- The pure statement behind the law DateBacks, over numbers and lists alone. Conditions: those that the printed statement names (each number is of its kind). -/
import Derived.Test.YtbgjeelbbmcpeaaDoorDDateBacks
import Derived.Test.YtbgjeelbbmcpeaaDoorMcal
set_option linter.unusedVariables false
set_option linter.unusedSimpArgs false
namespace Go.Proofs.YtbgjeelbbmcpeaaDoor.PDateBacks
open Go.RowKit Go.Proofs.YtbgjeelbbmcpeaaDoorW.PrintWords Go.Proofs.YtbgjeelbbmcpeaaDoorW.PrintLast Go.Proofs.YtbgjeelbbmcpeaaDoorW.PrintMore Go.Proofs.YtbgjeelbbmcpeaaDoor.M

theorem w64_ (x : Int) (h0 : -1000000000000000 ≤ x) (h1 : x ≤ 1000000000000000) : wrap64 x = x := by unfold wrap64; omega
theorem leap_eq (y : Int) (h1 : 1 ≤ y) (h2 : y ≤ 9999) : date_Leap.f y = some (isLeap y) := by
  unfold date_Leap.f isLeap
  rw [if_pos (by omega), if_pos (by omega), tmod0 (by omega), tmod0 (by omega), tmod0 (by omega)]
  by_cases c : y % 4 = 0
  · rw [if_pos c]
    by_cases c1 : y % 100 = 0
    · rw [if_pos c1]
      refine congrArg some ?_
      rw [Bool.eq_iff_iff]
      simp
      omega
    · rw [if_neg c1, decide_eq_true ⟨c, .inl c1⟩]
  · rw [if_neg c, decide_eq_false (by omega)]
theorem length_eq (k : Nat) (hk : 2 ≤ k) (y m : Int) (hy : 1 ≤ y ∧ y ≤ 9999) (hm : 1 ≤ m ∧ m ≤ 12) : date_Length.f k y m = some (mlen y m) := by
  obtain ⟨k, rfl⟩ : ∃ j, k = j + 2 := ⟨k - 2, by omega⟩
  unfold date_Length.f mlen
  rw [if_neg (by omega), if_neg (by omega), if_neg (by omega), decide_eq_false (by omega)]
  simp only [date_Length.j0, date_Length.j1, Bool.false_eq_true, if_false]
  have hl := leap_eq y hy.1 hy.2
  by_cases c4 : m = 4
  · subst c4; rfl
  rw [if_neg c4]
  by_cases c6 : m = 6
  · subst c6; rfl
  rw [if_neg c6]
  by_cases c9 : m = 9
  · subst c9; rfl
  rw [if_neg c9]
  by_cases c11 : m = 11
  · subst c11; rfl
  rw [beq_eq_false_iff_ne.2 c11]
  simp only [Bool.false_eq_true, if_false]
  have hne : ¬ (m = 4 ∨ m = 6 ∨ m = 9 ∨ m = 11) := by omega
  rw [if_neg hne]
  by_cases c2 : m = 2
  · rw [if_pos c2, if_pos c2, hl]
    simp only [Option.bind_some]
    unfold lp
    cases isLeap y <;> rfl
  · rw [if_neg c2, if_neg c2]
theorem length_no (k : Nat) (hk : 1 ≤ k) (y m : Int) (h : ¬ ((1 ≤ y ∧ y ≤ 9999) ∧ (1 ≤ m ∧ m ≤ 12))) : date_Length.f k y m = some 0 := by
  obtain ⟨k, rfl⟩ : ∃ j, k = j + 1 := ⟨k - 1, by omega⟩
  have e : date_Length.j0 (k + 1) y m true = some 0 := by simp only [date_Length.j0, if_true]
  unfold date_Length.f
  by_cases c1 : y < 1
  · rw [if_pos c1, e]
  rw [if_neg c1]
  by_cases c2 : y > 9999
  · rw [if_pos c2, e]
  rw [if_neg c2]
  by_cases c3 : m < 1
  · rw [if_pos c3, e]
  rw [if_neg c3, decide_eq_true (by omega), e]
/-- Is there such a date? -/
def realDate (y m d : Int) : Prop := (1 ≤ y ∧ y ≤ 9999) ∧ (1 ≤ m ∧ m ≤ 12) ∧ (1 ≤ d ∧ d ≤ mlen y m)
instance (y m d : Int) : Decidable (realDate y m d) := by unfold realDate; infer_instance
theorem right_yes (k : Nat) (hk : 2 ≤ k) (y m d : Int) (h : realDate y m d) : date_Civil_Right.f k y m d = some true := by
  obtain ⟨hy, hm, hd⟩ := h
  unfold date_Civil_Right.f
  rw [if_pos (by omega), length_eq k hk y m hy hm]
  simp only [Option.bind_some]
  rw [decide_eq_true hd.2]
theorem right_no (k : Nat) (hk : 2 ≤ k) (y m d : Int) (h : ¬ realDate y m d) : date_Civil_Right.f k y m d = some false := by
  unfold date_Civil_Right.f
  by_cases c : d ≥ 1
  · rw [if_pos c]
    by_cases c2 : (1 ≤ y ∧ y ≤ 9999) ∧ (1 ≤ m ∧ m ≤ 12)
    · rw [length_eq k hk y m c2.1 c2.2]
      simp only [Option.bind_some]
      rw [decide_eq_false (fun h2 => h ⟨c2.1, c2.2, c, h2⟩)]
    · rw [length_no k (by omega) y m c2]
      simp only [Option.bind_some]
      rw [decide_eq_false (by omega)]
  · rw [if_neg c]
theorem right_eq (k : Nat) (hk : 2 ≤ k) (y m d : Int) : date_Civil_Right.f k y m d = some (decide (realDate y m d)) := by
  by_cases h : realDate y m d
  · rw [right_yes k hk y m d h, decide_eq_true h]
  · rw [right_no k hk y m d h, decide_eq_false h]
/-- So many months on, of a date that there is. -/
theorem months_ok (k : Nat) (hk : 4 ≤ k) (y m d n : Int) (h : realDate y m d) (hn : -119988 ≤ n ∧ n ≤ 119988) (h0 : 0 ≤ (y - 1) * 12 + m - 1 + n) (h1 : (y - 1) * 12 + m - 1 + n < 119988) :
    date_Civil_Months.f k y m d n = some (((y - 1) * 12 + m - 1 + n) / 12 + 1, ((y - 1) * 12 + m - 1 + n) % 12 + 1, mn d (mlen (((y - 1) * 12 + m - 1 + n) / 12 + 1) (((y - 1) * 12 + m - 1 + n) % 12 + 1)), none) := by
  have hr := h
  obtain ⟨hy, hm, hd⟩ := h
  obtain ⟨k, rfl⟩ : ∃ j, k = j + 1 := ⟨k - 1, by omega⟩
  unfold date_Civil_Months.f
  rw [right_yes _ (by omega) y m d hr]
  simp only [Option.bind_some, if_true]
  rw [if_neg (by omega), decide_eq_false (by omega)]
  simp only [date_Civil_Months.j0, Bool.false_eq_true, if_false]
  rw [w64_ (y - 1) (by omega) (by omega), w64_ ((y - 1) * 12) (by omega) (by omega), w64_ ((y - 1) * 12 + m) (by omega) (by omega), w64_ ((y - 1) * 12 + m - 1) (by omega) (by omega), w64_ ((y - 1) * 12 + m - 1 + n) (by omega) (by omega)]
  generalize (y - 1) * 12 + m - 1 + n = t at *
  rw [if_neg (by omega), if_neg (by omega), tdiv0 h0, tmod0 h0, w64_ (t / 12) (by omega) (by omega), w64_ (t / 12 + 1) (by omega) (by omega), w64_ (t % 12 + 1) (by omega) (by omega), length_eq k (by omega) _ _ (by omega) (by omega)]
  rfl
theorem months_over (k : Nat) (hk : 4 ≤ k) (y m d n : Int) (h : realDate y m d) (hb : -9223372036854775808 ≤ n ∧ n ≤ 9223372036854775807) (hn : ¬ ((-119988 ≤ n ∧ n ≤ 119988) ∧ (0 ≤ (y - 1) * 12 + m - 1 + n ∧ (y - 1) * 12 + m - 1 + n < 119988))) :
    date_Civil_Months.f k y m d n = some (0, 0, 0, some 12) := by
  have hr := h
  obtain ⟨hy, hm, hd⟩ := h
  obtain ⟨k, rfl⟩ : ∃ j, k = j + 1 := ⟨k - 1, by omega⟩
  unfold date_Civil_Months.f
  rw [right_yes _ (by omega) y m d hr]
  simp only [Option.bind_some, if_true]
  by_cases c1 : n < -119988
  · rw [if_pos c1]; simp only [date_Civil_Months.j0, if_true]
  rw [if_neg c1]
  by_cases c2 : n > 119988
  · rw [decide_eq_true c2]; simp only [date_Civil_Months.j0, if_true]
  rw [decide_eq_false c2]
  simp only [date_Civil_Months.j0, Bool.false_eq_true, if_false]
  rw [w64_ (y - 1) (by omega) (by omega), w64_ ((y - 1) * 12) (by omega) (by omega), w64_ ((y - 1) * 12 + m) (by omega) (by omega), w64_ ((y - 1) * 12 + m - 1) (by omega) (by omega), w64_ ((y - 1) * 12 + m - 1 + n) (by omega) (by omega)]
  by_cases c3 : (y - 1) * 12 + m - 1 + n < 0
  · rw [if_pos c3]
  rw [if_neg c3, if_pos (by omega)]
theorem months_arg (k : Nat) (hk : 4 ≤ k) (y m d n : Int) (h : ¬ realDate y m d) : date_Civil_Months.f k y m d n = some (0, 0, 0, some 1) := by
  unfold date_Civil_Months.f
  rw [right_no _ (by omega) y m d h]
  rfl
theorem awake_yes (k : Nat) (hk : 4 ≤ k) : arrearslaw05_awake.f k = some true := by
  unfold arrearslaw05_awake.f
  rw [months_ok k hk 2024 1 31 1 (by decide) (by omega) (by omega) (by omega)]
  decide +kernel

theorem refleap_eq (y : Int) (h1 : 1 ≤ y) (h2 : y ≤ 9999) : arrearsref05_Leap.f y = some (isLeap y) := by
  unfold arrearsref05_Leap.f isLeap
  rw [if_neg (by omega), if_neg (by omega), tmod0 (by omega), tmod0 (by omega), tmod0 (by omega)]
  by_cases c : y % 4 > 0
  · rw [if_pos c, decide_eq_false (by omega)]
  · rw [if_neg c]
    by_cases c1 : y % 100 > 0
    · rw [if_pos c1, decide_eq_true ⟨by omega, .inl (by omega)⟩]
    · rw [if_neg c1]
      refine congrArg some ?_
      rw [Bool.eq_iff_iff]
      simp
      omega
theorem reflength_eq (k : Nat) (hk : 1 ≤ k) (y m : Int) (hy : 1 ≤ y ∧ y ≤ 9999) (hm : 1 ≤ m ∧ m ≤ 12) : arrearsref05_Length.f k y m = some (mlen y m) := by
  obtain ⟨k, rfl⟩ : ∃ j, k = j + 1 := ⟨k - 1, by omega⟩
  unfold arrearsref05_Length.f
  rw [if_neg (by omega), if_neg (by omega), if_neg (by omega), decide_eq_false (by omega)]
  simp only [arrearsref05_Length.j0, Bool.false_eq_true, if_false, Option.bind_some]
  rw [w64_ (m - 1) (by omega) (by omega), if_pos (by omega), if_pos (by simp; omega), refleap_eq y hy.1 hy.2]
  simp only [Option.bind_some]
  have : m = 1 ∨ m = 2 ∨ m = 3 ∨ m = 4 ∨ m = 5 ∨ m = 6 ∨ m = 7 ∨ m = 8 ∨ m = 9 ∨ m = 10 ∨ m = 11 ∨ m = 12 := by omega
  rcases this with rfl | rfl | rfl | rfl | rfl | rfl | rfl | rfl | rfl | rfl | rfl | rfl
  case inr.inl =>
    rw [if_pos rfl]
    unfold mlen lp
    cases isLeap y <;> decide +kernel
  all_goals rfl
theorem reflength_no (k : Nat) (hk : 1 ≤ k) (y m : Int) (h : ¬ ((1 ≤ y ∧ y ≤ 9999) ∧ (1 ≤ m ∧ m ≤ 12))) : arrearsref05_Length.f k y m = some 0 := by
  obtain ⟨k, rfl⟩ : ∃ j, k = j + 1 := ⟨k - 1, by omega⟩
  have e : arrearsref05_Length.j0 (k + 1) y m true = some 0 := by simp only [arrearsref05_Length.j0, if_true]
  unfold arrearsref05_Length.f
  by_cases c1 : y < 1
  · rw [if_pos c1, e]
  rw [if_neg c1]
  by_cases c2 : y > 9999
  · rw [if_pos c2, e]
  rw [if_neg c2]
  by_cases c3 : m < 1
  · rw [if_pos c3, e]
  rw [if_neg c3, decide_eq_true (by omega), e]
theorem refright_eq (k : Nat) (hk : 1 ≤ k) (y m d : Int) : arrearsref05_Right.f k y m d = some (decide (realDate y m d)) := by
  unfold arrearsref05_Right.f
  by_cases c : d > 0
  · rw [if_pos c]
    by_cases c2 : (1 ≤ y ∧ y ≤ 9999) ∧ (1 ≤ m ∧ m ≤ 12)
    · rw [reflength_eq k hk y m c2.1 c2.2]
      simp only [Option.bind_some]
      by_cases c3 : d ≤ mlen y m
      · rw [decide_eq_true c3, decide_eq_true (show realDate y m d from ⟨c2.1, c2.2, by omega, c3⟩)]
      · rw [decide_eq_false c3, decide_eq_false (fun h : realDate y m d => c3 h.2.2.2)]
    · rw [reflength_no k hk y m c2]
      simp only [Option.bind_some]
      rw [decide_eq_false (by omega), decide_eq_false (fun h : realDate y m d => c2 ⟨h.1, h.2.1⟩)]
  · rw [if_neg c, decide_eq_false (fun h : realDate y m d => c (by have := h.2.2.1; omega))]

theorem begins_eq (y : Int) (h1 : 1 ≤ y) (h2 : y ≤ 10002) : date_begins.f y = some (dby y) := by
  unfold date_begins.f dby
  rw [w64_ (y - 1) (by omega) (by omega), tdiv0 (by omega), tdiv0 (by omega), tdiv0 (by omega), w64_ ((y - 1) * 365) (by omega) (by omega), w64_ ((y - 1) / 4) (by omega) (by omega), w64_ ((y - 1) / 100) (by omega) (by omega), w64_ ((y - 1) / 400) (by omega) (by omega),
    w64_ ((y - 1) * 365 + (y - 1) / 4) (by omega) (by omega), w64_ ((y - 1) * 365 + (y - 1) / 4 - (y - 1) / 100) (by omega) (by omega), w64_ _ (by omega) (by omega)]
  refine congrArg some ?_
  omega
/-- The day's number of a date. -/
def dayNo (y m d : Int) : Int := dby y + cum y m + d - 1
theorem dayNo_isDate {y m d : Int} (h : realDate y m d) : IsDate (dayNo y m d) y m d := ⟨h.1, h.2.1, h.2.2, rfl⟩
theorem number_l0 (y m d : Int) (h : realDate y m d) : ∀ (j k : Nat) (i : Int), m - i = j → j + 3 < k → 1 ≤ i →
    date_Civil_Number.l0 k (dby y + d - 1 + cum y i) i y m d = some (dayNo y m d, none) := by
  obtain ⟨hy, hm, hd⟩ := h
  have hb := dby_bd y hy.1 (by omega)
  have hl := mlen_bd y m
  intro j
  induction j with
  | zero =>
    intro k i hi hk h1
    obtain ⟨k, rfl⟩ : ∃ q, k = q + 1 := ⟨k - 1, by omega⟩
    obtain rfl : i = m := by omega
    have hc := cum_bd y i h1 (by omega)
    simp only [date_Civil_Number.l0]
    rw [if_neg (by omega)]
    have : wrap32 (dby y + d - 1 + cum y i) = dayNo y i d := by unfold wrap32 dayNo; omega
    rw [this]
  | succ j ih =>
    intro k i hi hk h1
    obtain ⟨k, rfl⟩ : ∃ q, k = q + 1 := ⟨k - 1, by omega⟩
    have hc := cum_bd y i h1 (by omega)
    have hcs := cum_succ y i h1 (by omega)
    have hl2 := mlen_bd y i
    simp only [date_Civil_Number.l0]
    rw [if_pos (by omega), length_eq k (by omega) y i hy (by omega)]
    simp only [Option.bind_some]
    rw [w64_ (i + 1) (by omega) (by omega), w64_ _ (by omega) (by omega), show dby y + d - 1 + cum y i + mlen y i = dby y + d - 1 + cum y (i + 1) by omega]
    exact ih k (i + 1) (by omega) (by omega) (by omega)
theorem number_ok (k : Nat) (hk : 20 ≤ k) (y m d : Int) (h : realDate y m d) : date_Civil_Number.f k y m d = some (dayNo y m d, none) := by
  have hy := h.1; have hm := h.2.1; have hd := h.2.2
  have hb := dby_bd y hy.1 (by omega)
  have hl := mlen_bd y m
  unfold date_Civil_Number.f
  rw [right_yes k (by omega) y m d h, begins_eq y hy.1 (by omega)]
  simp only [Option.bind_some, if_true]
  rw [w64_ (dby y + d) (by omega) (by omega), w64_ (dby y + d - 1) (by omega) (by omega)]
  have := number_l0 y m d h (m - 1).toNat k 1 (by omega) (by omega) (by omega)
  rw [cum_one, Int.add_zero] at this
  exact this
theorem number_no (k : Nat) (hk : 2 ≤ k) (y m d : Int) (h : ¬ realDate y m d) : date_Civil_Number.f k y m d = some (0, some 1) := by
  unfold date_Civil_Number.f
  rw [right_no k hk y m d h]
  rfl
theorem refnumber_l1 (y m d : Int) (h : realDate y m d) : ∀ (j k : Nat) (i : Int), m - i = j → j + 3 < k → 1 ≤ i →
    arrearsref05_Number.l1 k (dby y + cum y i) i y m d = some (dayNo y m d) := by
  obtain ⟨hy, hm, hd⟩ := h
  have hb := dby_bd y hy.1 (by omega)
  have hl := mlen_bd y m
  intro j
  induction j with
  | zero =>
    intro k i hi hk h1
    obtain ⟨k, rfl⟩ : ∃ q, k = q + 1 := ⟨k - 1, by omega⟩
    obtain rfl : i = m := by omega
    have hc := cum_bd y i h1 (by omega)
    simp only [arrearsref05_Number.l1]
    rw [if_neg (by omega), w64_ (dby y + cum y i + d) (by omega) (by omega), w64_ (dby y + cum y i + d - 1) (by omega) (by omega)]
    rfl
  | succ j ih =>
    intro k i hi hk h1
    obtain ⟨k, rfl⟩ : ∃ q, k = q + 1 := ⟨k - 1, by omega⟩
    have hc := cum_bd y i h1 (by omega)
    have hcs := cum_succ y i h1 (by omega)
    have hl2 := mlen_bd y i
    simp only [arrearsref05_Number.l1]
    rw [if_pos (by omega), reflength_eq k (by omega) y i hy (by omega)]
    simp only [Option.bind_some]
    rw [w64_ (i + 1) (by omega) (by omega), w64_ _ (by omega) (by omega), show dby y + cum y i + mlen y i = dby y + cum y (i + 1) by omega]
    exact ih k (i + 1) (by omega) (by omega) (by omega)
theorem refnumber_l0 (y m d : Int) (h : realDate y m d) : ∀ (j k : Nat) (i : Int), y - i = j → j + 30 < k → 1 ≤ i →
    arrearsref05_Number.l0 k (dby i) i y m d = some (dayNo y m d) := by
  have hy := h.1; have hm := h.2.1
  intro j
  induction j with
  | zero =>
    intro k i hi hk h1
    obtain ⟨k, rfl⟩ : ∃ q, k = q + 1 := ⟨k - 1, by omega⟩
    obtain rfl : i = y := by omega
    simp only [arrearsref05_Number.l0]
    rw [if_neg (by omega)]
    have := refnumber_l1 i m d h (m - 1).toNat k 1 (by omega) (by omega) (by omega)
    rw [cum_one, Int.add_zero] at this
    exact this
  | succ j ih =>
    intro k i hi hk h1
    obtain ⟨k, rfl⟩ : ∃ q, k = q + 1 := ⟨k - 1, by omega⟩
    have hb := dby_bd i h1 (by omega)
    have hs := dby_succ i h1
    simp only [arrearsref05_Number.l0]
    rw [if_pos (by omega), refleap_eq i h1 (by omega)]
    simp only [Option.bind_some]
    rw [w64_ (i + 1) (by omega) (by omega), w64_ (dby i + 365) (by omega) (by omega), w64_ (dby i + 365 + 1) (by omega) (by omega)]
    have hi' := ih k (i + 1) (by omega) (by omega) (by omega)
    rw [hs] at hi'
    unfold lp at hi'
    cases hl : isLeap i with
    | true => rw [hl] at hi'; simp only [if_true] at hi' ⊢; exact hi'
    | false => rw [hl] at hi'; simp only [Bool.false_eq_true, if_false, Int.add_zero] at hi' ⊢; exact hi'
theorem refnumber_ok (k : Nat) (hk : 500 ≤ k) (y m d : Int) (h : realDate y m d) : arrearsref05_Number.f k y m d = some (dayNo y m d) := by
  have hy := h.1
  unfold arrearsref05_Number.f
  rw [w64_ (y - 1) (by omega) (by omega), tdiv0 (by omega), tmod0 (by omega), w64_ ((y - 1) / 400) (by omega) (by omega), w64_ (146097 * _) (by omega) (by omega), w64_ (y - _) (by omega) (by omega)]
  have e : dby (y - (y - 1) % 400) = 146097 * ((y - 1) / 400) := by unfold dby; omega
  rw [← e]
  exact refnumber_l0 y m d h ((y - 1) % 400).toNat k _ (by omega) (by omega) (by omega)
theorem last_eq (k : Nat) (hk : 2 ≤ k) (y m d : Int) (h : realDate y m d) : date_Civil_Last.f k y m d = some (d == mlen y m) := by
  unfold date_Civil_Last.f
  rw [right_yes k hk y m d h, length_eq k hk y m h.1 h.2.1]
  rfl
theorem last_no (k : Nat) (hk : 2 ≤ k) (y m d : Int) (h : ¬ realDate y m d) : date_Civil_Last.f k y m d = some false := by
  unfold date_Civil_Last.f
  rw [right_no k hk y m d h]
  rfl

theorem pure_proved : arrearslaw05_DateBacks.Pure := by
  intro y m d hy hm hd
  refine ⟨600, ?_⟩
  unfold arrearslaw05_DateBacks.f
  rw [awake_yes _ (by omega), refright_eq _ (by omega), right_eq _ (by omega)]
  simp only [Option.bind_some, if_true]
  by_cases h : realDate y m d
  · rw [number_ok _ (by omega) y m d h, decide_eq_true h]
    simp only [Option.bind_some, if_true, Option.isNone_none]
    rw [refnumber_ok _ (by omega) y m d h, last_eq _ (by omega) y m d h, reflength_eq _ (by omega) y m h.1 h.2.1]
    simp only [Option.bind_some]
    have hr := (dayNo_isDate h).range
    rw [w64_ _ (by omega) (by omega)]
    simp
  · rw [number_no _ (by omega) y m d h, decide_eq_false h]
    simp only [Option.bind_some, Bool.false_eq_true, if_false]
    rw [last_no _ (by omega) y m d h]
    rfl

end Go.Proofs.YtbgjeelbbmcpeaaDoor.PDateBacks
