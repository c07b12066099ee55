/- The pure statement behind the law DateReads, over numbers and lists alone. Conditions: those that the printed statement names (each number is of its kind). -/
import Derived.Test.YtbgjeelbbmcpeaaDoorDDateReads
import Derived.Test.YtbgjeelbbmcpeaaDoorMcal
import Derived.Test.YtbgjeelbbmcpeaaDoorMtxt
set_option linter.unusedVariables false
set_option linter.unusedSimpArgs false
namespace Go.Proofs.YtbgjeelbbmcpeaaDoor.PDateReads
open Go.RowKit Go.Proofs.YtbgjeelbbmcpeaaDoorW.PrintWords Go.Proofs.YtbgjeelbbmcpeaaDoorW.PrintLast Go.Proofs.YtbgjeelbbmcpeaaDoorW.PrintMore Go.Proofs.YtbgjeelbbmcpeaaDoor.M

theorem w64_ (x : Int) (h0 : -1000000000000000 ≤ x) (h1 : x ≤ 1000000000000000) : wrap64 x = x := by unfold wrap64; omega
theorem leap_eq (y : Int) (h1 : 1 ≤ y) (h2 : y ≤ 9999) : date_Leap.f y = some (isLeap y) := by
  unfold date_Leap.f isLeap
  rw [if_pos (by omega), if_pos (by omega), tmod0 (by omega), tmod0 (by omega), tmod0 (by omega)]
  by_cases c : y % 4 = 0
  · rw [if_pos c]
    by_cases c1 : y % 100 = 0
    · rw [if_pos c1]
      refine congrArg some ?_
      rw [Bool.eq_iff_iff]
      simp
      omega
    · rw [if_neg c1, decide_eq_true ⟨c, .inl c1⟩]
  · rw [if_neg c, decide_eq_false (by omega)]
theorem length_eq (k : Nat) (hk : 2 ≤ k) (y m : Int) (hy : 1 ≤ y ∧ y ≤ 9999) (hm : 1 ≤ m ∧ m ≤ 12) : date_Length.f k y m = some (mlen y m) := by
  obtain ⟨k, rfl⟩ : ∃ j, k = j + 2 := ⟨k - 2, by omega⟩
  unfold date_Length.f mlen
  rw [if_neg (by omega), if_neg (by omega), if_neg (by omega), decide_eq_false (by omega)]
  simp only [date_Length.j0, date_Length.j1, Bool.false_eq_true, if_false]
  have hl := leap_eq y hy.1 hy.2
  by_cases c4 : m = 4
  · subst c4; rfl
  rw [if_neg c4]
  by_cases c6 : m = 6
  · subst c6; rfl
  rw [if_neg c6]
  by_cases c9 : m = 9
  · subst c9; rfl
  rw [if_neg c9]
  by_cases c11 : m = 11
  · subst c11; rfl
  rw [beq_eq_false_iff_ne.2 c11]
  simp only [Bool.false_eq_true, if_false]
  have hne : ¬ (m = 4 ∨ m = 6 ∨ m = 9 ∨ m = 11) := by omega
  rw [if_neg hne]
  by_cases c2 : m = 2
  · rw [if_pos c2, if_pos c2, hl]
    simp only [Option.bind_some]
    unfold lp
    cases isLeap y <;> rfl
  · rw [if_neg c2, if_neg c2]
theorem length_no (k : Nat) (hk : 1 ≤ k) (y m : Int) (h : ¬ ((1 ≤ y ∧ y ≤ 9999) ∧ (1 ≤ m ∧ m ≤ 12))) : date_Length.f k y m = some 0 := by
  obtain ⟨k, rfl⟩ : ∃ j, k = j + 1 := ⟨k - 1, by omega⟩
  have e : date_Length.j0 (k + 1) y m true = some 0 := by simp only [date_Length.j0, if_true]
  unfold date_Length.f
  by_cases c1 : y < 1
  · rw [if_pos c1, e]
  rw [if_neg c1]
  by_cases c2 : y > 9999
  · rw [if_pos c2, e]
  rw [if_neg c2]
  by_cases c3 : m < 1
  · rw [if_pos c3, e]
  rw [if_neg c3, decide_eq_true (by omega), e]
/-- Is there such a date? -/
def realDate (y m d : Int) : Prop := (1 ≤ y ∧ y ≤ 9999) ∧ (1 ≤ m ∧ m ≤ 12) ∧ (1 ≤ d ∧ d ≤ mlen y m)
instance (y m d : Int) : Decidable (realDate y m d) := by unfold realDate; infer_instance
theorem right_yes (k : Nat) (hk : 2 ≤ k) (y m d : Int) (h : realDate y m d) : date_Civil_Right.f k y m d = some true := by
  obtain ⟨hy, hm, hd⟩ := h
  unfold date_Civil_Right.f
  rw [if_pos (by omega), length_eq k hk y m hy hm]
  simp only [Option.bind_some]
  rw [decide_eq_true hd.2]
theorem right_no (k : Nat) (hk : 2 ≤ k) (y m d : Int) (h : ¬ realDate y m d) : date_Civil_Right.f k y m d = some false := by
  unfold date_Civil_Right.f
  by_cases c : d ≥ 1
  · rw [if_pos c]
    by_cases c2 : (1 ≤ y ∧ y ≤ 9999) ∧ (1 ≤ m ∧ m ≤ 12)
    · rw [length_eq k hk y m c2.1 c2.2]
      simp only [Option.bind_some]
      rw [decide_eq_false (fun h2 => h ⟨c2.1, c2.2, c, h2⟩)]
    · rw [length_no k (by omega) y m c2]
      simp only [Option.bind_some]
      rw [decide_eq_false (by omega)]
  · rw [if_neg c]
theorem right_eq (k : Nat) (hk : 2 ≤ k) (y m d : Int) : date_Civil_Right.f k y m d = some (decide (realDate y m d)) := by
  by_cases h : realDate y m d
  · rw [right_yes k hk y m d h, decide_eq_true h]
  · rw [right_no k hk y m d h, decide_eq_false h]

/-- So many months on, of a date that there is. -/
theorem months_ok (k : Nat) (hk : 4 ≤ k) (y m d n : Int) (h : realDate y m d) (hn : -119988 ≤ n ∧ n ≤ 119988) (h0 : 0 ≤ (y - 1) * 12 + m - 1 + n) (h1 : (y - 1) * 12 + m - 1 + n < 119988) :
    date_Civil_Months.f k y m d n = some (((y - 1) * 12 + m - 1 + n) / 12 + 1, ((y - 1) * 12 + m - 1 + n) % 12 + 1, mn d (mlen (((y - 1) * 12 + m - 1 + n) / 12 + 1) (((y - 1) * 12 + m - 1 + n) % 12 + 1)), none) := by
  have hr := h
  obtain ⟨hy, hm, hd⟩ := h
  obtain ⟨k, rfl⟩ : ∃ j, k = j + 1 := ⟨k - 1, by omega⟩
  unfold date_Civil_Months.f
  rw [right_yes _ (by omega) y m d hr]
  simp only [Option.bind_some, if_true]
  rw [if_neg (by omega), decide_eq_false (by omega)]
  simp only [date_Civil_Months.j0, Bool.false_eq_true, if_false]
  rw [w64_ (y - 1) (by omega) (by omega), w64_ ((y - 1) * 12) (by omega) (by omega), w64_ ((y - 1) * 12 + m) (by omega) (by omega), w64_ ((y - 1) * 12 + m - 1) (by omega) (by omega), w64_ ((y - 1) * 12 + m - 1 + n) (by omega) (by omega)]
  generalize (y - 1) * 12 + m - 1 + n = t at *
  rw [if_neg (by omega), if_neg (by omega), tdiv0 h0, tmod0 h0, w64_ (t / 12) (by omega) (by omega), w64_ (t / 12 + 1) (by omega) (by omega), w64_ (t % 12 + 1) (by omega) (by omega), length_eq k (by omega) _ _ (by omega) (by omega)]
  rfl
theorem months_over (k : Nat) (hk : 4 ≤ k) (y m d n : Int) (h : realDate y m d) (hb : -9223372036854775808 ≤ n ∧ n ≤ 9223372036854775807) (hn : ¬ ((-119988 ≤ n ∧ n ≤ 119988) ∧ (0 ≤ (y - 1) * 12 + m - 1 + n ∧ (y - 1) * 12 + m - 1 + n < 119988))) :
    date_Civil_Months.f k y m d n = some (0, 0, 0, some 12) := by
  have hr := h
  obtain ⟨hy, hm, hd⟩ := h
  obtain ⟨k, rfl⟩ : ∃ j, k = j + 1 := ⟨k - 1, by omega⟩
  unfold date_Civil_Months.f
  rw [right_yes _ (by omega) y m d hr]
  simp only [Option.bind_some, if_true]
  by_cases c1 : n < -119988
  · rw [if_pos c1]; simp only [date_Civil_Months.j0, if_true]
  rw [if_neg c1]
  by_cases c2 : n > 119988
  · rw [decide_eq_true c2]; simp only [date_Civil_Months.j0, if_true]
  rw [decide_eq_false c2]
  simp only [date_Civil_Months.j0, Bool.false_eq_true, if_false]
  rw [w64_ (y - 1) (by omega) (by omega), w64_ ((y - 1) * 12) (by omega) (by omega), w64_ ((y - 1) * 12 + m) (by omega) (by omega), w64_ ((y - 1) * 12 + m - 1) (by omega) (by omega), w64_ ((y - 1) * 12 + m - 1 + n) (by omega) (by omega)]
  by_cases c3 : (y - 1) * 12 + m - 1 + n < 0
  · rw [if_pos c3]
  rw [if_neg c3, if_pos (by omega)]
theorem months_arg (k : Nat) (hk : 4 ≤ k) (y m d n : Int) (h : ¬ realDate y m d) : date_Civil_Months.f k y m d n = some (0, 0, 0, some 1) := by
  unfold date_Civil_Months.f
  rw [right_no _ (by omega) y m d h]
  rfl

theorem awake_yes (k : Nat) (hk : 4 ≤ k) : arrearslaw05_awake.f k = some true := by
  unfold arrearslaw05_awake.f
  rw [months_ok k hk 2024 1 31 1 (by decide) (by omega) (by omega) (by omega)]
  decide +kernel


theorem refleap_eq (y : Int) (h1 : 1 ≤ y) (h2 : y ≤ 9999) : arrearsref05_Leap.f y = some (isLeap y) := by
  unfold arrearsref05_Leap.f isLeap
  rw [if_neg (by omega), if_neg (by omega), tmod0 (by omega), tmod0 (by omega), tmod0 (by omega)]
  by_cases c : y % 4 > 0
  · rw [if_pos c, decide_eq_false (by omega)]
  · rw [if_neg c]
    by_cases c1 : y % 100 > 0
    · rw [if_pos c1, decide_eq_true ⟨by omega, .inl (by omega)⟩]
    · rw [if_neg c1]
      refine congrArg some ?_
      rw [Bool.eq_iff_iff]
      simp
      omega
theorem reflength_eq (k : Nat) (hk : 1 ≤ k) (y m : Int) (hy : 1 ≤ y ∧ y ≤ 9999) (hm : 1 ≤ m ∧ m ≤ 12) : arrearsref05_Length.f k y m = some (mlen y m) := by
  obtain ⟨k, rfl⟩ : ∃ j, k = j + 1 := ⟨k - 1, by omega⟩
  unfold arrearsref05_Length.f
  rw [if_neg (by omega), if_neg (by omega), if_neg (by omega), decide_eq_false (by omega)]
  simp only [arrearsref05_Length.j0, Bool.false_eq_true, if_false, Option.bind_some]
  rw [w64_ (m - 1) (by omega) (by omega), if_pos (by omega), if_pos (by simp; omega), refleap_eq y hy.1 hy.2]
  simp only [Option.bind_some]
  have : m = 1 ∨ m = 2 ∨ m = 3 ∨ m = 4 ∨ m = 5 ∨ m = 6 ∨ m = 7 ∨ m = 8 ∨ m = 9 ∨ m = 10 ∨ m = 11 ∨ m = 12 := by omega
  rcases this with rfl | rfl | rfl | rfl | rfl | rfl | rfl | rfl | rfl | rfl | rfl | rfl
  case inr.inl =>
    rw [if_pos rfl]
    unfold mlen lp
    cases isLeap y <;> decide +kernel
  all_goals rfl
theorem reflength_no (k : Nat) (hk : 1 ≤ k) (y m : Int) (h : ¬ ((1 ≤ y ∧ y ≤ 9999) ∧ (1 ≤ m ∧ m ≤ 12))) : arrearsref05_Length.f k y m = some 0 := by
  obtain ⟨k, rfl⟩ : ∃ j, k = j + 1 := ⟨k - 1, by omega⟩
  have e : arrearsref05_Length.j0 (k + 1) y m true = some 0 := by simp only [arrearsref05_Length.j0, if_true]
  unfold arrearsref05_Length.f
  by_cases c1 : y < 1
  · rw [if_pos c1, e]
  rw [if_neg c1]
  by_cases c2 : y > 9999
  · rw [if_pos c2, e]
  rw [if_neg c2]
  by_cases c3 : m < 1
  · rw [if_pos c3, e]
  rw [if_neg c3, decide_eq_true (by omega), e]

theorem refright_eq (k : Nat) (hk : 1 ≤ k) (y m d : Int) : arrearsref05_Right.f k y m d = some (decide (realDate y m d)) := by
  unfold arrearsref05_Right.f
  by_cases c : d > 0
  · rw [if_pos c]
    by_cases c2 : (1 ≤ y ∧ y ≤ 9999) ∧ (1 ≤ m ∧ m ≤ 12)
    · rw [reflength_eq k hk y m c2.1 c2.2]
      simp only [Option.bind_some]
      by_cases c3 : d ≤ mlen y m
      · rw [decide_eq_true c3, decide_eq_true (show realDate y m d from ⟨c2.1, c2.2, by omega, c3⟩)]
      · rw [decide_eq_false c3, decide_eq_false (fun h : realDate y m d => c3 h.2.2.2)]
    · rw [reflength_no k hk y m c2]
      simp only [Option.bind_some]
      rw [decide_eq_false (by omega), decide_eq_false (fun h : realDate y m d => c2 ⟨h.1, h.2.1⟩)]
  · rw [if_neg c, decide_eq_false (fun h : realDate y m d => c (by have := h.2.2.1; omega))]



theorem begins_eq (y : Int) (h1 : 1 ≤ y) (h2 : y ≤ 10002) : date_begins.f y = some (dby y) := by
  unfold date_begins.f dby
  rw [w64_ (y - 1) (by omega) (by omega), tdiv0 (by omega), tdiv0 (by omega), tdiv0 (by omega), w64_ ((y - 1) * 365) (by omega) (by omega), w64_ ((y - 1) / 4) (by omega) (by omega), w64_ ((y - 1) / 100) (by omega) (by omega), w64_ ((y - 1) / 400) (by omega) (by omega),
    w64_ ((y - 1) * 365 + (y - 1) / 4) (by omega) (by omega), w64_ ((y - 1) * 365 + (y - 1) / 4 - (y - 1) / 100) (by omega) (by omega), w64_ _ (by omega) (by omega)]
  refine congrArg some ?_
  omega

theorem civil_l2 (n y : Int) (hn : 0 ≤ n ∧ n ≤ 3652058) (hy : 1 ≤ y ∧ y ≤ 9999) (hb : dby y ≤ n) (he : n < dby (y + 1)) :
    ∀ (j k : Nat) (m : Int), 13 - m = j → j + 4 < k → 1 ≤ m ∧ m ≤ 12 → cum y m ≤ n - dby y →
      ∃ m' d', date_Day_Civil.l2 k y (mlen y m) y m (n - dby y - cum y m + 1) = some (y, m', d', none) ∧ IsDate n y m' d' := by
  intro j
  induction j with
  | zero => intro k m hm _ hm2; omega
  | succ j ih =>
    intro k m hm hk hm2 hc
    obtain ⟨k, rfl⟩ : ∃ i, k = i + 1 := ⟨k - 1, by omega⟩
    have hbd := mlen_bd y m
    have hcs := cum_succ y m hm2.1 hm2.2
    have hcb := cum_bd y m hm2.1 (by omega)
    simp only [date_Day_Civil.l2]
    by_cases c : n - dby y - cum y m + 1 > mlen y m
    · rw [if_pos c]
      have hm3 : m < 12 := by
        by_cases h : m < 12
        · exact h
        · obtain rfl : m = 12 := by omega
          rw [show (12 : Int) + 1 = 13 by omega, cum_end] at hcs
          have := dby_succ y hy.1
          omega
      have hdb := dby_bd y hy.1 (by omega)
      rw [w64_ (m + 1) (by omega) (by omega), w64_ _ (by omega) (by omega), length_eq k (by omega) y (m + 1) hy (by omega)]
      simp only [Option.bind_some]
      rw [show n - dby y - cum y m + 1 - mlen y m = n - dby y - cum y (m + 1) + 1 by omega]
      exact ih k (m + 1) (by omega) (by omega) (by omega) (by omega)
    · rw [if_neg c]
      exact ⟨m, _, rfl, dates_exist n hn.1 hn.2 hy hb he hm2 hc (by omega)⟩
theorem civil_l1 (n : Int) (hn : 0 ≤ n ∧ n ≤ 3652058) : ∀ (j k : Nat) (y : Int), 9999 - y = j → j + 30 < k → 1 ≤ y → dby y ≤ n →
    ∃ y' m' d', date_Day_Civil.l1 k n y = some (y', m', d', none) ∧ IsDate n y' m' d' := by
  intro j
  induction j with
  | zero =>
    intro k y hy hk h1 hb
    obtain ⟨k, rfl⟩ : ∃ i, k = i + 1 := ⟨k - 1, by omega⟩
    obtain rfl : y = 9999 := by omega
    have ht := dby_top
    simp only [date_Day_Civil.l1]
    rw [w64_ (9999 + 1) (by omega) (by omega), w64_ n (by omega) (by omega), begins_eq (9999 + 1) (by omega) (by omega), begins_eq 9999 (by omega) (by omega), length_eq k (by omega) 9999 1 (by omega) (by omega)]
    simp only [Option.bind_some]
    rw [if_neg (by rw [show (9999 : Int) + 1 = 10000 by omega]; omega)]
    have hdb := dby_bd 9999 (by omega) (by omega)
    rw [w64_ (n - dby 9999) (by omega) (by omega), w64_ (n - dby 9999 + 1) (by omega) (by omega)]
    obtain ⟨m', d', e, hd⟩ := civil_l2 n 9999 hn (by omega) hb (by rw [show (9999 : Int) + 1 = 10000 by omega]; omega) 12 k 1 (by omega) (by omega) (by omega) (by rw [cum_one]; omega)
    rw [cum_one, show n - dby 9999 - 0 + 1 = n - dby 9999 + 1 by omega] at e
    exact ⟨_, m', d', e, hd⟩
  | succ j ih =>
    intro k y hy hk h1 hb
    obtain ⟨k, rfl⟩ : ∃ i, k = i + 1 := ⟨k - 1, by omega⟩
    simp only [date_Day_Civil.l1]
    rw [w64_ (y + 1) (by omega) (by omega), w64_ n (by omega) (by omega), begins_eq (y + 1) (by omega) (by omega), begins_eq y (by omega) (by omega), length_eq k (by omega) y 1 (by omega) (by omega)]
    simp only [Option.bind_some]
    by_cases c : dby (y + 1) ≤ n
    · rw [if_pos c]
      exact ih k (y + 1) (by omega) (by omega) (by omega) c
    · rw [if_neg c]
      have hdb := dby_bd y (by omega) (by omega)
      rw [w64_ (n - dby y) (by omega) (by omega), w64_ (n - dby y + 1) (by omega) (by omega)]
      obtain ⟨m', d', e, hd⟩ := civil_l2 n y hn (by omega) hb (by omega) 12 k 1 (by omega) (by omega) (by omega) (by rw [cum_one]; omega)
      rw [cum_one, show n - dby y - 0 + 1 = n - dby y + 1 by omega] at e
      exact ⟨_, m', d', e, hd⟩
theorem civil_l0 (n : Int) (hn : 0 ≤ n ∧ n ≤ 3652058) : ∀ (j k : Nat) (y : Int), y - 1 = j → y ≤ 10000 → 10100 + j < k →
    ∃ y' m' d', date_Day_Civil.l0 k n y = some (y', m', d', none) ∧ IsDate n y' m' d' := by
  intro j
  induction j with
  | zero =>
    intro k y hy hy2 hk
    obtain ⟨k, rfl⟩ : ∃ i, k = i + 1 := ⟨k - 1, by omega⟩
    obtain rfl : y = 1 := by omega
    have e1 : dby 1 = 0 := by decide
    simp only [date_Day_Civil.l0]
    rw [w64_ n (by omega) (by omega), begins_eq 1 (by omega) (by omega)]
    simp only [Option.bind_some]
    rw [if_neg (by omega)]
    exact civil_l1 n hn 9998 k 1 (by omega) (by omega) (by omega) (by omega)
  | succ j ih =>
    intro k y hy hy2 hk
    obtain ⟨k, rfl⟩ : ∃ i, k = i + 1 := ⟨k - 1, by omega⟩
    simp only [date_Day_Civil.l0]
    rw [w64_ n (by omega) (by omega), begins_eq y (by omega) (by omega)]
    simp only [Option.bind_some]
    by_cases c : dby y > n
    · rw [if_pos c, w64_ (y - 1) (by omega) (by omega)]
      exact ih k (y - 1) (by omega) (by omega) (by omega)
    · rw [if_neg c]
      have hy3 : y ≤ 9999 := by
        by_cases h : 9999 < y
        · have := dby_mono (a := 10000) (b := y) (by omega) (by omega)
          rw [dby_top] at this
          omega
        · omega
      exact civil_l1 n hn (9999 - y).toNat k y (by omega) (by omega) (by omega) (by omega)
theorem civil_ok (n : Int) (hn : 0 ≤ n ∧ n ≤ 3652058) (k : Nat) (hk : 20200 ≤ k) : ∃ y m d, date_Day_Civil.f k n = some (y, m, d, none) ∧ IsDate n y m d := by
  unfold date_Day_Civil.f date_Day_Right.f
  rw [if_pos (by omega), decide_eq_true hn.2]
  simp only [Option.bind_some, if_true]
  rw [w64_ n (by omega) (by omega), w64_ (n * 400) (by omega) (by omega), tdiv0 (by omega), w64_ (n * 400 / 146097) (by omega) (by omega), w64_ _ (by omega) (by omega)]
  exact civil_l0 n hn (n * 400 / 146097 + 1 - 1).toNat k _ (by omega) (by omega) (by omega)
theorem civil_no (n : Int) (h : ¬ (0 ≤ n ∧ n ≤ 3652058)) (k : Nat) : date_Day_Civil.f k n = some (0, 0, 0, some 1) := by
  unfold date_Day_Civil.f date_Day_Right.f
  by_cases c : n ≥ 0
  · rw [if_pos c, decide_eq_false (by omega)]
    rfl
  · rw [if_neg c]
    rfl
theorem real_of {n y m d : Int} (h : IsDate n y m d) : realDate y m d := ⟨h.hy, h.hm, h.hd⟩

theorem itoa_eq {n : Int} (h0 : 0 ≤ n) (h1 : n ≤ 9999) : strconv_Itoa.f n = some ⟨(Go.Lib.itoa n).toArray⟩ := by
  unfold strconv_Itoa.f
  rw [if_pos (by omega)]
theorem pad_step (k : Nat) (size : Int) (l : List UInt8) (h : (l.length : Int) < size) (hl : l.length ≤ 10) : date_pad.l0 (k + 1) size ⟨l.toArray⟩ = date_pad.l0 k size ⟨(48 :: l).toArray⟩ := by
  simp only [date_pad.l0]
  rw [mk_size, if_pos h, if_pos (by omega), show (⟨#[48]⟩ : ByteArray) = ⟨[48].toArray⟩ from rfl, mk_append]; rfl
theorem pad_done (k : Nat) (size : Int) (l : List UInt8) (h : ¬ (l.length : Int) < size) : date_pad.l0 (k + 1) size ⟨l.toArray⟩ = some ⟨l.toArray⟩ := by
  simp only [date_pad.l0]
  rw [mk_size, if_neg h]
theorem pad_two {n : Int} (h0 : 0 ≤ n) (h1 : n ≤ 99) (k : Nat) (hk : 2 ≤ k) : date_pad.f k n 2 = some ⟨(twoD n).toArray⟩ := by
  obtain ⟨k, rfl⟩ : ∃ j, k = j + 2 := ⟨k - 2, by omega⟩
  unfold date_pad.f
  rw [itoa_eq h0 (by omega)]
  simp only [Option.bind_some]
  by_cases c : n < 10
  · rw [itoa_1 h0 c, pad_step _ _ _ (by simp) (by simp), pad_done _ _ _ (by simp)]
    unfold twoD
    rw [show n / 10 = 0 by omega, show n % 10 = n by omega]; rfl
  · rw [itoa_2 (by omega) (by omega), pad_done _ _ _ (by simp [two_length])]
theorem pad_four {n : Int} (h0 : 0 ≤ n) (h1 : n ≤ 9999) (k : Nat) (hk : 4 ≤ k) : date_pad.f k n 4 = some ⟨(fourD n).toArray⟩ := by
  obtain ⟨k, rfl⟩ : ∃ j, k = j + 4 := ⟨k - 4, by omega⟩
  unfold date_pad.f
  rw [itoa_eq h0 (by omega)]
  simp only [Option.bind_some]
  by_cases c : n < 10
  · rw [itoa_1 h0 c, pad_step _ _ _ (by simp) (by simp), pad_step _ _ _ (by simp) (by simp), pad_step _ _ _ (by simp) (by simp), pad_done _ _ _ (by simp)]
    unfold fourD
    rw [show n / 1000 = 0 by omega, show n / 100 % 10 = 0 by omega, show n / 10 % 10 = 0 by omega, show n % 10 = n by omega]; rfl
  by_cases c2 : n < 100
  · rw [itoa_2 (by omega) c2, pad_step _ _ _ (by simp [two_length]) (by simp [two_length]), pad_step _ _ _ (by simp [two_length]) (by simp [two_length]), pad_done _ _ _ (by simp [two_length])]
    unfold fourD twoD
    rw [show n / 1000 = 0 by omega, show n / 100 % 10 = 0 by omega, show n / 10 % 10 = n / 10 by omega]; rfl
  by_cases c3 : n < 1000
  · rw [itoa_3 (by omega) c3, pad_step _ _ _ (by simp) (by simp), pad_done _ _ _ (by simp)]
    unfold fourD
    rw [show n / 1000 = 0 by omega, show n / 100 % 10 = n / 100 by omega]; rfl
  · rw [itoa_4 (by omega) (by omega), pad_done _ _ _ (by simp [four_length])]
theorem text_ok (k : Nat) (hk : 20200 ≤ k) (n y m d : Int) (h : IsDate n y m d) : date_Day_Text.f k n = some ⟨(textOf y m d).toArray⟩ := by
  obtain ⟨y', m', d', e, hd⟩ := civil_ok n h.range k hk
  obtain ⟨rfl, rfl, rfl⟩ := h.unique hd
  have h1 := h.hy; have h2 := h.hm; have h3 := h.hd; have h4 := mlen_bd y m
  unfold date_Day_Text.f
  rw [e]
  simp only [Option.bind_some, Option.isNone_none, if_true]
  rw [pad_four (by omega) (by omega) k (by omega), pad_two (n := m) (by omega) (by omega) k (by omega), pad_two (n := d) (by omega) (by omega) k (by omega)]
  simp only [Option.bind_some]
  rw [show (⟨#[45]⟩ : ByteArray) = ⟨[45].toArray⟩ from rfl]
  simp only [mk_append, mk_size, List.length_append, two_length, four_length, List.length_cons, List.length_nil]
  rw [if_pos (by decide), if_pos (by decide), if_pos (by decide), if_pos (by decide)]
  unfold textOf
  simp
theorem text_no (k : Nat) (n : Int) (h : ¬ (0 ≤ n ∧ n ≤ 3652058)) : date_Day_Text.f k n = some ⟨#[]⟩ := by
  unfold date_Day_Text.f
  rw [civil_no n h k]
  rfl



/-- The day's number of a date. -/
def dayNo (y m d : Int) : Int := dby y + cum y m + d - 1
theorem dayNo_isDate {y m d : Int} (h : realDate y m d) : IsDate (dayNo y m d) y m d := ⟨h.1, h.2.1, h.2.2, rfl⟩
theorem number_l0 (y m d : Int) (h : realDate y m d) : ∀ (j k : Nat) (i : Int), m - i = j → j + 3 < k → 1 ≤ i →
    date_Civil_Number.l0 k (dby y + d - 1 + cum y i) i y m d = some (dayNo y m d, none) := by
  obtain ⟨hy, hm, hd⟩ := h
  have hb := dby_bd y hy.1 (by omega)
  have hl := mlen_bd y m
  intro j
  induction j with
  | zero =>
    intro k i hi hk h1
    obtain ⟨k, rfl⟩ : ∃ q, k = q + 1 := ⟨k - 1, by omega⟩
    obtain rfl : i = m := by omega
    have hc := cum_bd y i h1 (by omega)
    simp only [date_Civil_Number.l0]
    rw [if_neg (by omega)]
    have : wrap32 (dby y + d - 1 + cum y i) = dayNo y i d := by unfold wrap32 dayNo; omega
    rw [this]
  | succ j ih =>
    intro k i hi hk h1
    obtain ⟨k, rfl⟩ : ∃ q, k = q + 1 := ⟨k - 1, by omega⟩
    have hc := cum_bd y i h1 (by omega)
    have hcs := cum_succ y i h1 (by omega)
    have hl2 := mlen_bd y i
    simp only [date_Civil_Number.l0]
    rw [if_pos (by omega), length_eq k (by omega) y i hy (by omega)]
    simp only [Option.bind_some]
    rw [w64_ (i + 1) (by omega) (by omega), w64_ _ (by omega) (by omega), show dby y + d - 1 + cum y i + mlen y i = dby y + d - 1 + cum y (i + 1) by omega]
    exact ih k (i + 1) (by omega) (by omega) (by omega)
theorem number_ok (k : Nat) (hk : 20 ≤ k) (y m d : Int) (h : realDate y m d) : date_Civil_Number.f k y m d = some (dayNo y m d, none) := by
  have hy := h.1; have hm := h.2.1; have hd := h.2.2
  have hb := dby_bd y hy.1 (by omega)
  have hl := mlen_bd y m
  unfold date_Civil_Number.f
  rw [right_yes k (by omega) y m d h, begins_eq y hy.1 (by omega)]
  simp only [Option.bind_some, if_true]
  rw [w64_ (dby y + d) (by omega) (by omega), w64_ (dby y + d - 1) (by omega) (by omega)]
  have := number_l0 y m d h (m - 1).toNat k 1 (by omega) (by omega) (by omega)
  rw [cum_one, Int.add_zero] at this
  exact this
theorem number_no (k : Nat) (hk : 2 ≤ k) (y m d : Int) (h : ¬ realDate y m d) : date_Civil_Number.f k y m d = some (0, some 1) := by
  unfold date_Civil_Number.f
  rw [right_no k hk y m d h]
  rfl

theorem atoiV_ok {l : List UInt8} {v : Int} (h : Go.Lib.atoiAll l = .ok v) : atoiV l = v := by unfold atoiV; rw [h]
theorem read_text (k : Nat) (hk : 20300 ≤ k) (y m d : Int) (h : realDate y m d) : date_Read.f k ⟨(textOf y m d).toArray⟩ = some (dayNo y m d, none) := by
  have hy := h.1; have hm := h.2.1; have hd := h.2.2; have hl := mlen_bd y m
  unfold date_Read.f
  rw [if_pos (by rw [mk_size]; rfl), ex04, ex57, ex810, atoiV_ok (atoi_four (n := y) (by omega) (by omega)), atoiV_ok (atoi_two (n := m) (by omega) (by omega)), atoiV_ok (atoi_two (n := d) (by omega) (by omega)), number_ok k (by omega) y m d h]
  simp only [Option.bind_some, Option.isNone_none, if_true]
  rw [text_ok k (by omega) (dayNo y m d) y m d (dayNo_isDate h)]
  simp
theorem read_other (k : Nat) (hk : 20300 ≤ k) (s : ByteArray) (h : ∀ y m d, realDate y m d → s.data.toList ≠ textOf y m d) : date_Read.f k s = some (0, some 15) := by
  unfold date_Read.f
  by_cases hs : s.size = 10
  · rw [if_pos hs]
    generalize atoiV (s.extract 0 4).data.toList = y
    generalize atoiV (s.extract 5 7).data.toList = m
    generalize atoiV (s.extract 8 10).data.toList = d
    by_cases hr : realDate y m d
    · rw [number_ok k (by omega) y m d hr]
      simp only [Option.bind_some, Option.isNone_none, if_true]
      rw [text_ok k (by omega) (dayNo y m d) y m d (dayNo_isDate hr)]
      simp only [Option.bind_some, toList_data]
      have : ((textOf y m d).toArray.toList == s.data.toList) = false := by
        rw [beq_eq_false_iff_ne]
        intro e
        exact h y m d hr (by rw [← e])
      rw [this]
      rfl
    · rw [number_no k (by omega) y m d hr]
      rfl
  · rw [if_neg hs]



theorem refnumber_l1 (y m d : Int) (h : realDate y m d) : ∀ (j k : Nat) (i : Int), m - i = j → j + 3 < k → 1 ≤ i →
    arrearsref05_Number.l1 k (dby y + cum y i) i y m d = some (dayNo y m d) := by
  obtain ⟨hy, hm, hd⟩ := h
  have hb := dby_bd y hy.1 (by omega)
  have hl := mlen_bd y m
  intro j
  induction j with
  | zero =>
    intro k i hi hk h1
    obtain ⟨k, rfl⟩ : ∃ q, k = q + 1 := ⟨k - 1, by omega⟩
    obtain rfl : i = m := by omega
    have hc := cum_bd y i h1 (by omega)
    simp only [arrearsref05_Number.l1]
    rw [if_neg (by omega), w64_ (dby y + cum y i + d) (by omega) (by omega), w64_ (dby y + cum y i + d - 1) (by omega) (by omega)]
    rfl
  | succ j ih =>
    intro k i hi hk h1
    obtain ⟨k, rfl⟩ : ∃ q, k = q + 1 := ⟨k - 1, by omega⟩
    have hc := cum_bd y i h1 (by omega)
    have hcs := cum_succ y i h1 (by omega)
    have hl2 := mlen_bd y i
    simp only [arrearsref05_Number.l1]
    rw [if_pos (by omega), reflength_eq k (by omega) y i hy (by omega)]
    simp only [Option.bind_some]
    rw [w64_ (i + 1) (by omega) (by omega), w64_ _ (by omega) (by omega), show dby y + cum y i + mlen y i = dby y + cum y (i + 1) by omega]
    exact ih k (i + 1) (by omega) (by omega) (by omega)
theorem refnumber_l0 (y m d : Int) (h : realDate y m d) : ∀ (j k : Nat) (i : Int), y - i = j → j + 30 < k → 1 ≤ i →
    arrearsref05_Number.l0 k (dby i) i y m d = some (dayNo y m d) := by
  have hy := h.1; have hm := h.2.1
  intro j
  induction j with
  | zero =>
    intro k i hi hk h1
    obtain ⟨k, rfl⟩ : ∃ q, k = q + 1 := ⟨k - 1, by omega⟩
    obtain rfl : i = y := by omega
    simp only [arrearsref05_Number.l0]
    rw [if_neg (by omega)]
    have := refnumber_l1 i m d h (m - 1).toNat k 1 (by omega) (by omega) (by omega)
    rw [cum_one, Int.add_zero] at this
    exact this
  | succ j ih =>
    intro k i hi hk h1
    obtain ⟨k, rfl⟩ : ∃ q, k = q + 1 := ⟨k - 1, by omega⟩
    have hb := dby_bd i h1 (by omega)
    have hs := dby_succ i h1
    simp only [arrearsref05_Number.l0]
    rw [if_pos (by omega), refleap_eq i h1 (by omega)]
    simp only [Option.bind_some]
    rw [w64_ (i + 1) (by omega) (by omega), w64_ (dby i + 365) (by omega) (by omega), w64_ (dby i + 365 + 1) (by omega) (by omega)]
    have hi' := ih k (i + 1) (by omega) (by omega) (by omega)
    rw [hs] at hi'
    unfold lp at hi'
    cases hl : isLeap i with
    | true => rw [hl] at hi'; simp only [if_true] at hi' ⊢; exact hi'
    | false => rw [hl] at hi'; simp only [Bool.false_eq_true, if_false, Int.add_zero] at hi' ⊢; exact hi'
theorem refnumber_ok (k : Nat) (hk : 500 ≤ k) (y m d : Int) (h : realDate y m d) : arrearsref05_Number.f k y m d = some (dayNo y m d) := by
  have hy := h.1
  unfold arrearsref05_Number.f
  rw [w64_ (y - 1) (by omega) (by omega), tdiv0 (by omega), tmod0 (by omega), w64_ ((y - 1) / 400) (by omega) (by omega), w64_ (146097 * _) (by omega) (by omega), w64_ (y - _) (by omega) (by omega)]
  have e : dby (y - (y - 1) % 400) = 146097 * ((y - 1) / 400) := by unfold dby; omega
  rw [← e]
  exact refnumber_l0 y m d h ((y - 1) % 400).toNat k _ (by omega) (by omega) (by omega)

theorem rr_digit (k : Nat) (s : ByteArray) (x3 : List Int) (x4 i : Int) (hs : s.size = 10) (hi : 0 ≤ i ∧ i < 10) (h4 : i ≠ 4) (h7 : i ≠ 7) (hc : 48 ≤ bt s i ∧ bt s i ≤ 57) (hx : 0 ≤ x4 ∧ x4 < x3.length) (hv : 0 ≤ rd x3 x4 ∧ rd x3 x4 ≤ 100000) :
    arrearsref05_Read.l0 (k + 2) s x3 x4 i = arrearsref05_Read.l0 k s (x3.set x4.toNat (10 * rd x3 x4 + (bt s i - 48))) x4 (i + 1) := by
  simp only [arrearsref05_Read.l0, arrearsref05_Read.j2]
  rw [hs, if_pos (by omega), if_neg h4, beq_eq_false_iff_ne.2 h7]
  simp only [Bool.false_eq_true, if_false]
  rw [if_pos hi.1, if_pos (by omega), if_neg (by omega), if_neg (by omega), if_pos hx.1, if_pos hx.2, w64_ (i + 1) (by omega) (by omega), w64_ (10 * rd x3 x4) (by omega) (by omega), w64_ _ (by omega) (by omega), show (bt s i - 48) % 256 = bt s i - 48 by omega]
theorem rr_bad (k : Nat) (s : ByteArray) (x3 : List Int) (x4 i : Int) (hs : s.size = 10) (hi : 0 ≤ i ∧ i < 10) (h4 : i ≠ 4) (h7 : i ≠ 7) (hc : ¬ (48 ≤ bt s i ∧ bt s i ≤ 57)) :
    arrearsref05_Read.l0 (k + 2) s x3 x4 i = some (-1) := by
  simp only [arrearsref05_Read.l0, arrearsref05_Read.j2]
  rw [hs, if_pos (by omega), if_neg h4, beq_eq_false_iff_ne.2 h7]
  simp only [Bool.false_eq_true, if_false]
  rw [if_pos hi.1, if_pos (by omega)]
  by_cases c : bt s i < 48
  · rw [if_pos c]
  · rw [if_neg c, if_pos (by omega)]
theorem rr_dash (k : Nat) (s : ByteArray) (x3 : List Int) (x4 i : Int) (hs : s.size = 10) (h : i = 4 ∨ i = 7) (hx : 0 ≤ x4 ∧ x4 ≤ 10) :
    arrearsref05_Read.l0 (k + 2) s x3 x4 i = arrearsref05_Read.l0 k s x3 (x4 + 1) (i + 1) := by
  simp only [arrearsref05_Read.l0, arrearsref05_Read.j2]
  rw [hs]
  rcases h with rfl | rfl
  · rw [if_pos (by omega), if_pos rfl, w64_ (x4 + 1) (by omega) (by omega), w64_ (4 + 1) (by omega) (by omega)]; simp only [if_true]
  · rw [if_pos (by omega), if_neg (by omega), w64_ (x4 + 1) (by omega) (by omega), w64_ (7 + 1) (by omega) (by omega)]; simp only [beq_self_eq_true, if_true]
theorem rr_end (k : Nat) (hk : 500 ≤ k) (s : ByteArray) (y m d x4 : Int) (hs : s.size = 10) : arrearsref05_Read.l0 (k + 1) s [y, m, d] x4 10 = some (if realDate y m d then dayNo y m d else -1) := by
  simp only [arrearsref05_Read.l0]
  rw [hs, if_neg (by omega), if_pos (by simp), if_pos (by simp), if_pos (by simp)]
  simp only [rd, show (0 : Int).toNat = 0 from rfl, show (1 : Int).toNat = 1 from rfl, show (2 : Int).toNat = 2 from rfl, List.getD_cons_zero, List.getD_cons_succ]
  rw [refright_eq k (by omega) y m d]
  simp only [Option.bind_some]
  by_cases h : realDate y m d
  · rw [decide_eq_true h, if_pos h, if_pos rfl, refnumber_ok k hk y m d h]; rfl
  · rw [decide_eq_false h, if_neg h]; rfl
/-- The value of a byte as a digit. -/
def dv (b : UInt8) : Int := (b.toNat : Int) - 48
def isD (b : UInt8) : Prop := 48 ≤ b.toNat ∧ b.toNat ≤ 57
theorem dgt_dv {b : UInt8} (h : isD b) : dgt (dv b) = b := by
  rw [← UInt8.toNat_inj, dgt_nat (by unfold dv; unfold isD at h; omega) (by unfold dv; unfold isD at h; omega)]
  unfold dv; unfold isD at h; omega
theorem dv_bd {b : UInt8} (h : isD b) : 0 ≤ dv b ∧ dv b ≤ 9 := by unfold dv; unfold isD at h; omega
theorem text_bytes {b0 b1 b2 b3 b5 b6 b8 b9 : UInt8} (h0 : isD b0) (h1 : isD b1) (h2 : isD b2) (h3 : isD b3) (h5 : isD b5) (h6 : isD b6) (h8 : isD b8) (h9 : isD b9) :
    textOf (1000 * dv b0 + 100 * dv b1 + 10 * dv b2 + dv b3) (10 * dv b5 + dv b6) (10 * dv b8 + dv b9) = [b0, b1, b2, b3, 45, b5, b6, 45, b8, b9] := by
  have e0 := dv_bd h0; have e1 := dv_bd h1; have e2 := dv_bd h2; have e3 := dv_bd h3; have e5 := dv_bd h5; have e6 := dv_bd h6; have e8 := dv_bd h8; have e9 := dv_bd h9
  have g0 := dgt_dv h0; have g1 := dgt_dv h1; have g2 := dgt_dv h2; have g3 := dgt_dv h3; have g5 := dgt_dv h5; have g6 := dgt_dv h6; have g8 := dgt_dv h8; have g9 := dgt_dv h9
  unfold textOf fourD twoD
  generalize dv b0 = a0 at *; generalize dv b1 = a1 at *; generalize dv b2 = a2 at *; generalize dv b3 = a3 at *
  generalize dv b5 = a5 at *; generalize dv b6 = a6 at *; generalize dv b8 = a8 at *; generalize dv b9 = a9 at *
  rw [show (1000 * a0 + 100 * a1 + 10 * a2 + a3) / 1000 = a0 by omega, show (1000 * a0 + 100 * a1 + 10 * a2 + a3) / 100 % 10 = a1 by omega, show (1000 * a0 + 100 * a1 + 10 * a2 + a3) / 10 % 10 = a2 by omega, show (1000 * a0 + 100 * a1 + 10 * a2 + a3) % 10 = a3 by omega,
    show (10 * a5 + a6) / 10 = a5 by omega, show (10 * a5 + a6) % 10 = a6 by omega, show (10 * a8 + a9) / 10 = a8 by omega, show (10 * a8 + a9) % 10 = a9 by omega, g0, g1, g2, g3, g5, g6, g8, g9]
  rfl
theorem isD_dgt {i : Int} (h : 0 ≤ i ∧ i ≤ 9) : isD (dgt i) := by unfold isD; rw [dgt_nat h.1 h.2]; omega
theorem refread_eq (k : Nat) (hk : 600 ≤ k) (b0 b1 b2 b3 b4 b5 b6 b7 b8 b9 : UInt8) (s : ByteArray) (hs : s = ⟨#[b0, b1, b2, b3, b4, b5, b6, b7, b8, b9]⟩) :
    (b4 = 45 ∧ b7 = 45 ∧ isD b0 ∧ isD b1 ∧ isD b2 ∧ isD b3 ∧ isD b5 ∧ isD b6 ∧ isD b8 ∧ isD b9 ∧ arrearsref05_Read.f k s = some (if realDate (1000 * dv b0 + 100 * dv b1 + 10 * dv b2 + dv b3) (10 * dv b5 + dv b6) (10 * dv b8 + dv b9) then dayNo (1000 * dv b0 + 100 * dv b1 + 10 * dv b2 + dv b3) (10 * dv b5 + dv b6) (10 * dv b8 + dv b9) else -1)) ∨
    (¬ (b4 = 45 ∧ b7 = 45 ∧ isD b0 ∧ isD b1 ∧ isD b2 ∧ isD b3 ∧ isD b5 ∧ isD b6 ∧ isD b8 ∧ isD b9) ∧ arrearsref05_Read.f k s = some (-1)) := by
  have hz : s.size = 10 := by rw [hs]; rfl
  have c0 : bt s 0 = b0.toNat := by rw [hs]; rfl
  have c1 : bt s 1 = b1.toNat := by rw [hs]; rfl
  have c2 : bt s 2 = b2.toNat := by rw [hs]; rfl
  have c3 : bt s 3 = b3.toNat := by rw [hs]; rfl
  have c4 : bt s 4 = b4.toNat := by rw [hs]; rfl
  have c5 : bt s 5 = b5.toNat := by rw [hs]; rfl
  have c6 : bt s 6 = b6.toNat := by rw [hs]; rfl
  have c7 : bt s 7 = b7.toNat := by rw [hs]; rfl
  have c8 : bt s 8 = b8.toNat := by rw [hs]; rfl
  have c9 : bt s 9 = b9.toNat := by rw [hs]; rfl
  clear hs
  obtain ⟨k, rfl⟩ : ∃ j, k = j + 22 := ⟨k - 22, by omega⟩
  have ej : arrearsref05_Read.j0 (k + 22) s true = some (-1) := by simp only [arrearsref05_Read.j0, if_true]
  unfold arrearsref05_Read.f
  rw [hz, if_pos (by omega), if_pos (by omega), c4]
  by_cases q4 : b4 = 45
  · have q4' : (b4.toNat : Int) = 45 := by rw [q4]; rfl
    rw [if_pos q4', if_pos (by omega), c7]
    by_cases q7 : b7 = 45
    · have q7' : (b7.toNat : Int) = 45 := by rw [q7]; rfl
      have q7b : ((b7.toNat : Int) != 45) = false := by simp [q7']
      rw [q7b]
      simp only [arrearsref05_Read.j0, Bool.false_eq_true, if_false]
      by_cases d0 : isD b0
      case neg =>
        refine .inr ⟨fun h => d0 h.2.2.1, ?_⟩
        exact rr_bad _ s _ _ 0 hz (by omega) (by omega) (by omega) (by rw [c0]; unfold isD at d0; omega)
      have v0 := dv_bd d0
      rw [rr_digit _ s _ 0 0 hz (by omega) (by omega) (by omega) (by rw [c0]; unfold isD at d0; omega) (by simp) (by simp [rd]), c0]
      rw [show ([0, 0, 0] : List Int).set (0 : Int).toNat (10 * rd [0, 0, 0] 0 + ((b0.toNat : Int) - 48)) = [dv b0, 0, 0] by simp [rd, dv], show (0 : Int) + 1 = 1 from rfl]
      by_cases d1 : isD b1
      case neg =>
        refine .inr ⟨fun h => d1 h.2.2.2.1, ?_⟩
        exact rr_bad _ s _ _ 1 hz (by omega) (by omega) (by omega) (by rw [c1]; unfold isD at d1; omega)
      have v1 := dv_bd d1
      rw [rr_digit _ s _ 0 1 hz (by omega) (by omega) (by omega) (by rw [c1]; unfold isD at d1; omega) (by simp) (by simp [rd]; omega), c1]
      rw [show ([dv b0, 0, 0] : List Int).set (0 : Int).toNat (10 * rd [dv b0, 0, 0] 0 + ((b1.toNat : Int) - 48)) = [10 * dv b0 + dv b1, 0, 0] by simp [rd, dv], show (1 : Int) + 1 = 2 from rfl]
      by_cases d2 : isD b2
      case neg =>
        refine .inr ⟨fun h => d2 h.2.2.2.2.1, ?_⟩
        exact rr_bad _ s _ _ 2 hz (by omega) (by omega) (by omega) (by rw [c2]; unfold isD at d2; omega)
      have v2 := dv_bd d2
      rw [rr_digit _ s _ 0 2 hz (by omega) (by omega) (by omega) (by rw [c2]; unfold isD at d2; omega) (by simp) (by simp [rd]; omega), c2]
      rw [show ([10 * dv b0 + dv b1, 0, 0] : List Int).set (0 : Int).toNat (10 * rd [10 * dv b0 + dv b1, 0, 0] 0 + ((b2.toNat : Int) - 48)) = [100 * dv b0 + 10 * dv b1 + dv b2, 0, 0] by simp [rd, dv]; omega, show (2 : Int) + 1 = 3 from rfl]
      by_cases d3 : isD b3
      case neg =>
        refine .inr ⟨fun h => d3 h.2.2.2.2.2.1, ?_⟩
        exact rr_bad _ s _ _ 3 hz (by omega) (by omega) (by omega) (by rw [c3]; unfold isD at d3; omega)
      have v3 := dv_bd d3
      rw [rr_digit _ s _ 0 3 hz (by omega) (by omega) (by omega) (by rw [c3]; unfold isD at d3; omega) (by simp) (by simp [rd]; omega), c3]
      rw [show ([100 * dv b0 + 10 * dv b1 + dv b2, 0, 0] : List Int).set (0 : Int).toNat (10 * rd [100 * dv b0 + 10 * dv b1 + dv b2, 0, 0] 0 + ((b3.toNat : Int) - 48)) = [1000 * dv b0 + 100 * dv b1 + 10 * dv b2 + dv b3, 0, 0] by simp [rd, dv]; omega, show (3 : Int) + 1 = 4 from rfl]
      generalize 1000 * dv b0 + 100 * dv b1 + 10 * dv b2 + dv b3 = y
      rw [rr_dash _ s _ 0 4 hz (.inl rfl) (by omega), show (4 : Int) + 1 = 5 from rfl, show (0 : Int) + 1 = 1 from rfl]
      by_cases d5 : isD b5
      case neg =>
        refine .inr ⟨fun h => d5 h.2.2.2.2.2.2.1, ?_⟩
        exact rr_bad _ s _ _ 5 hz (by omega) (by omega) (by omega) (by rw [c5]; unfold isD at d5; omega)
      have v5 := dv_bd d5
      rw [rr_digit _ s _ 1 5 hz (by omega) (by omega) (by omega) (by rw [c5]; unfold isD at d5; omega) (by simp) (by simp [rd]), c5]
      rw [show ([y, 0, 0] : List Int).set (1 : Int).toNat (10 * rd [y, 0, 0] 1 + ((b5.toNat : Int) - 48)) = [y, dv b5, 0] by simp [rd, dv], show (5 : Int) + 1 = 6 from rfl]
      by_cases d6 : isD b6
      case neg =>
        refine .inr ⟨fun h => d6 h.2.2.2.2.2.2.2.1, ?_⟩
        exact rr_bad _ s _ _ 6 hz (by omega) (by omega) (by omega) (by rw [c6]; unfold isD at d6; omega)
      have v6 := dv_bd d6
      rw [rr_digit _ s _ 1 6 hz (by omega) (by omega) (by omega) (by rw [c6]; unfold isD at d6; omega) (by simp) (by simp [rd]; omega), c6]
      rw [show ([y, dv b5, 0] : List Int).set (1 : Int).toNat (10 * rd [y, dv b5, 0] 1 + ((b6.toNat : Int) - 48)) = [y, 10 * dv b5 + dv b6, 0] by simp [rd, dv], show (6 : Int) + 1 = 7 from rfl]
      generalize 10 * dv b5 + dv b6 = m
      rw [rr_dash _ s _ 1 7 hz (.inr rfl) (by omega), show (7 : Int) + 1 = 8 from rfl, show (1 : Int) + 1 = 2 from rfl]
      by_cases d8 : isD b8
      case neg =>
        refine .inr ⟨fun h => d8 h.2.2.2.2.2.2.2.2.1, ?_⟩
        exact rr_bad _ s _ _ 8 hz (by omega) (by omega) (by omega) (by rw [c8]; unfold isD at d8; omega)
      have v8 := dv_bd d8
      rw [rr_digit _ s _ 2 8 hz (by omega) (by omega) (by omega) (by rw [c8]; unfold isD at d8; omega) (by simp) (by simp [rd]), c8]
      rw [show ([y, m, 0] : List Int).set (2 : Int).toNat (10 * rd [y, m, 0] 2 + ((b8.toNat : Int) - 48)) = [y, m, dv b8] by simp [rd, dv], show (8 : Int) + 1 = 9 from rfl]
      by_cases d9 : isD b9
      case neg =>
        refine .inr ⟨fun h => d9 h.2.2.2.2.2.2.2.2.2, ?_⟩
        exact rr_bad _ s _ _ 9 hz (by omega) (by omega) (by omega) (by rw [c9]; unfold isD at d9; omega)
      have v9 := dv_bd d9
      rw [rr_digit _ s _ 2 9 hz (by omega) (by omega) (by omega) (by rw [c9]; unfold isD at d9; omega) (by simp) (by simp [rd]; omega), c9]
      rw [show ([y, m, dv b8] : List Int).set (2 : Int).toNat (10 * rd [y, m, dv b8] 2 + ((b9.toNat : Int) - 48)) = [y, m, 10 * dv b8 + dv b9] by simp [rd, dv], show (9 : Int) + 1 = 10 from rfl]
      exact .inl ⟨q4, q7, d0, d1, d2, d3, d5, d6, d8, d9, rr_end _ (by omega) s y m _ 2 hz⟩
    · have q7b : ((b7.toNat : Int) != 45) = true := by
        rw [bne_iff_ne]; intro e; exact q7 (by rw [← UInt8.toNat_inj]; have : (45 : UInt8).toNat = 45 := rfl; omega)
      rw [q7b]
      exact .inr ⟨fun h => q7 h.2.1, ej⟩
  · have q4' : ¬ (b4.toNat : Int) = 45 := by
      intro e; exact q4 (by rw [← UInt8.toNat_inj]; have : (45 : UInt8).toNat = 45 := rfl; omega)
    rw [if_neg q4']
    exact .inr ⟨fun h => q4 h.1, ej⟩
theorem refread_short (k : Nat) (hk : 600 ≤ k) (s : ByteArray) (h : s.size ≠ 10) : arrearsref05_Read.f k s = some (-1) := by
  obtain ⟨k, rfl⟩ : ∃ j, k = j + 1 := ⟨k - 1, by omega⟩
  unfold arrearsref05_Read.f
  rw [if_neg (by omega)]
  simp only [arrearsref05_Read.j0, if_true]
/-- A text: either a date's, or none's. -/
theorem both_read (k : Nat) (hk : 20300 ≤ k) (s : ByteArray) : (∃ n, 0 ≤ n ∧ n ≤ 3652058 ∧ date_Read.f k s = some (n, none) ∧ arrearsref05_Read.f k s = some n) ∨ (date_Read.f k s = some (0, some 15) ∧ arrearsref05_Read.f k s = some (-1)) := by
  by_cases hz : s.size = 10
  case neg => exact .inr ⟨read_other k hk s fun y m d _ e => hz ((Array.length_toList (xs := s.data)).symm.trans ((congrArg List.length e).trans (text_length y m d))), refread_short k (by omega) s hz⟩
  obtain ⟨b0, b1, b2, b3, b4, b5, b6, b7, b8, b9, hs⟩ : ∃ b0 b1 b2 b3 b4 b5 b6 b7 b8 b9 : UInt8, s = ⟨#[b0, b1, b2, b3, b4, b5, b6, b7, b8, b9]⟩ := by
    obtain ⟨⟨l⟩⟩ := s
    have hl : l.length = 10 := by simpa [ByteArray.size] using hz
    match l, hl with
    | [b0, b1, b2, b3, b4, b5, b6, b7, b8, b9], _ => exact ⟨b0, b1, b2, b3, b4, b5, b6, b7, b8, b9, rfl⟩
  rcases refread_eq k (by omega) b0 b1 b2 b3 b4 b5 b6 b7 b8 b9 s hs with ⟨q4, q7, d0, d1, d2, d3, d5, d6, d8, d9, e⟩ | ⟨hn, e⟩
  · have ht := text_bytes d0 d1 d2 d3 d5 d6 d8 d9
    have es : s = ⟨(textOf (1000 * dv b0 + 100 * dv b1 + 10 * dv b2 + dv b3) (10 * dv b5 + dv b6) (10 * dv b8 + dv b9)).toArray⟩ := by rw [hs, ht, q4, q7]
    by_cases hr : realDate (1000 * dv b0 + 100 * dv b1 + 10 * dv b2 + dv b3) (10 * dv b5 + dv b6) (10 * dv b8 + dv b9)
    · rw [if_pos hr] at e
      have hg := (dayNo_isDate hr).range
      refine .inl ⟨_, hg.1, hg.2, ?_, e⟩
      rw [es]
      exact read_text k hk _ _ _ hr
    · rw [if_neg hr] at e
      refine .inr ⟨read_other k hk s fun y m d hr' e' => hr ?_, e⟩
      have e2 : textOf y m d = textOf (1000 * dv b0 + 100 * dv b1 + 10 * dv b2 + dv b3) (10 * dv b5 + dv b6) (10 * dv b8 + dv b9) := by rw [← e', es]
      have v0 := dv_bd d0; have v1 := dv_bd d1; have v2 := dv_bd d2; have v3 := dv_bd d3; have v5 := dv_bd d5; have v6 := dv_bd d6; have v8 := dv_bd d8; have v9 := dv_bd d9
      obtain ⟨rfl, rfl, rfl⟩ := text_inj (y := y) (m := m) (d := d) (by have := hr'.1; omega) (by have := hr'.2.1; omega) (by have := hr'.2.2; have := mlen_bd y m; omega) (by omega) (by omega) (by omega) e2
      exact hr'
  · refine .inr ⟨read_other k hk s fun y m d hr' e' => hn ?_, e⟩
    have e2 : [b0, b1, b2, b3, b4, b5, b6, b7, b8, b9] = textOf y m d := by rw [← e', hs]
    have h1 := hr'.1; have h2 := hr'.2.1; have h3 := hr'.2.2; have h4 := mlen_bd y m
    unfold textOf fourD twoD at e2
    simp only [List.cons_append, List.nil_append, List.cons.injEq, and_true] at e2
    obtain ⟨rfl, rfl, rfl, rfl, rfl, rfl, rfl, rfl, rfl, rfl⟩ := e2
    exact ⟨rfl, rfl, isD_dgt (by omega), isD_dgt (by omega), isD_dgt (by omega), isD_dgt (by omega), isD_dgt (by omega), isD_dgt (by omega), isD_dgt (by omega), isD_dgt (by omega)⟩

theorem leaps_eq (y : Int) : ∃ b, date_Leap.f y = some b ∧ arrearsref05_Leap.f y = some b := by
  by_cases h : 1 ≤ y ∧ y ≤ 9999
  · exact ⟨_, leap_eq y h.1 h.2, refleap_eq y h.1 h.2⟩
  · refine ⟨false, ?_, ?_⟩
    · unfold date_Leap.f
      by_cases c : y ≥ 1
      · rw [if_pos c, if_neg (by omega)]
      · rw [if_neg c]
    · unfold arrearsref05_Leap.f
      by_cases c : y < 1
      · rw [if_pos c]
      · rw [if_neg c, if_pos (by omega)]
theorem lengths_eq (k : Nat) (hk : 2 ≤ k) (y m : Int) : ∃ n, date_Length.f k y m = some n ∧ arrearsref05_Length.f k y m = some n := by
  by_cases h : (1 ≤ y ∧ y ≤ 9999) ∧ (1 ≤ m ∧ m ≤ 12)
  · exact ⟨_, length_eq k hk y m h.1 h.2, reflength_eq k (by omega) y m h.1 h.2⟩
  · exact ⟨_, length_no k (by omega) y m h, reflength_no k (by omega) y m h⟩
theorem reads_j0 (k : Nat) (hk : 3 ≤ k) (y m : Int) : arrearslaw05_DateReads.j0 k y m false = some true := by
  obtain ⟨k, rfl⟩ : ∃ j, k = j + 1 := ⟨k - 1, by omega⟩
  simp only [arrearslaw05_DateReads.j0, Bool.false_eq_true, if_false]
  obtain ⟨b, e1, e2⟩ := leaps_eq y
  obtain ⟨n, e3, e4⟩ := lengths_eq k (by omega) y m
  rw [e1, e2]
  simp only [Option.bind_some, beq_self_eq_true, if_true]
  rw [e3, e4]
  simp
theorem pure_proved : arrearslaw05_DateReads.Pure := by
  intro s y m hs hy hm
  refine ⟨20310, ?_⟩
  have hj := reads_j0 20310 (by omega) y m
  unfold arrearslaw05_DateReads.f arrearsref01_Text.f
  rw [awake_yes _ (by omega)]
  simp only [Option.bind_some, if_true]
  have e1 : 0 ≤ mn (s.size : Int) 20 := by unfold mn; split <;> omega
  have e2 : mn (s.size : Int) 20 ≤ (s.size : Int) := by unfold mn; split <;> omega
  rw [if_pos e1, if_pos e2]
  simp only [Option.bind_some]
  generalize s.extract 0 (mn (s.size : Int) 20).toNat = t
  rcases both_read 20310 (by omega) t with ⟨n, h0, h1, ea, eb⟩ | ⟨ea, eb⟩
  · rw [ea, eb]
    simp only [Option.bind_some, Option.isNone_none, if_true]
    rw [decide_eq_true (show n ≥ 0 from h0), if_neg (by simp), if_pos h0, if_pos (w64_ n (by omega) (by omega)), if_neg (by omega)]
    exact hj
  · rw [ea, eb]
    simp only [Option.bind_some, Option.isNone_some, Bool.false_eq_true, if_false]
    rw [show (false != decide ((-1 : Int) ≥ 0)) = false from rfl]
    simp only [Bool.false_eq_true, if_false]
    rw [if_neg (by omega), if_pos (by omega)]
    simp only [api_Code.f, Option.getD_some, Option.bind_some, if_true]
    exact hj

end Go.Proofs.YtbgjeelbbmcpeaaDoor.PDateReads
