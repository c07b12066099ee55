/- The pure statement behind the law DateOrders, over numbers and lists alone. Conditions: those that the printed statement names (each number is of its kind). -/
import Derived.Test.YtbgjeelbbmcpeaaDoorDDateOrders
import Derived.Test.YtbgjeelbbmcpeaaDoorMcal
import Derived.Test.YtbgjeelbbmcpeaaDoorMtxt
set_option linter.unusedVariables false
set_option linter.unusedSimpArgs false
namespace Go.Proofs.YtbgjeelbbmcpeaaDoor.PDateOrders
open Go.RowKit Go.Proofs.YtbgjeelbbmcpeaaDoorW.PrintWords Go.Proofs.YtbgjeelbbmcpeaaDoorW.PrintLast Go.Proofs.YtbgjeelbbmcpeaaDoorW.PrintMore Go.Proofs.YtbgjeelbbmcpeaaDoor.M

theorem w64_ (x : Int) (h0 : -1000000000000000 ≤ x) (h1 : x ≤ 1000000000000000) : wrap64 x = x := by unfold wrap64; omega
theorem leap_eq (y : Int) (h1 : 1 ≤ y) (h2 : y ≤ 9999) : date_Leap.f y = some (isLeap y) := by
  unfold date_Leap.f isLeap
  rw [if_pos (by omega), if_pos (by omega), tmod0 (by omega), tmod0 (by omega), tmod0 (by omega)]
  by_cases c : y % 4 = 0
  · rw [if_pos c]
    by_cases c1 : y % 100 = 0
    · rw [if_pos c1]
      refine congrArg some ?_
      rw [Bool.eq_iff_iff]
      simp
      omega
    · rw [if_neg c1, decide_eq_true ⟨c, .inl c1⟩]
  · rw [if_neg c, decide_eq_false (by omega)]
theorem length_eq (k : Nat) (hk : 2 ≤ k) (y m : Int) (hy : 1 ≤ y ∧ y ≤ 9999) (hm : 1 ≤ m ∧ m ≤ 12) : date_Length.f k y m = some (mlen y m) := by
  obtain ⟨k, rfl⟩ : ∃ j, k = j + 2 := ⟨k - 2, by omega⟩
  unfold date_Length.f mlen
  rw [if_neg (by omega), if_neg (by omega), if_neg (by omega), decide_eq_false (by omega)]
  simp only [date_Length.j0, date_Length.j1, Bool.false_eq_true, if_false]
  have hl := leap_eq y hy.1 hy.2
  by_cases c4 : m = 4
  · subst c4; rfl
  rw [if_neg c4]
  by_cases c6 : m = 6
  · subst c6; rfl
  rw [if_neg c6]
  by_cases c9 : m = 9
  · subst c9; rfl
  rw [if_neg c9]
  by_cases c11 : m = 11
  · subst c11; rfl
  rw [beq_eq_false_iff_ne.2 c11]
  simp only [Bool.false_eq_true, if_false]
  have hne : ¬ (m = 4 ∨ m = 6 ∨ m = 9 ∨ m = 11) := by omega
  rw [if_neg hne]
  by_cases c2 : m = 2
  · rw [if_pos c2, if_pos c2, hl]
    simp only [Option.bind_some]
    unfold lp
    cases isLeap y <;> rfl
  · rw [if_neg c2, if_neg c2]
theorem length_no (k : Nat) (hk : 1 ≤ k) (y m : Int) (h : ¬ ((1 ≤ y ∧ y ≤ 9999) ∧ (1 ≤ m ∧ m ≤ 12))) : date_Length.f k y m = some 0 := by
  obtain ⟨k, rfl⟩ : ∃ j, k = j + 1 := ⟨k - 1, by omega⟩
  have e : date_Length.j0 (k + 1) y m true = some 0 := by simp only [date_Length.j0, if_true]
  unfold date_Length.f
  by_cases c1 : y < 1
  · rw [if_pos c1, e]
  rw [if_neg c1]
  by_cases c2 : y > 9999
  · rw [if_pos c2, e]
  rw [if_neg c2]
  by_cases c3 : m < 1
  · rw [if_pos c3, e]
  rw [if_neg c3, decide_eq_true (by omega), e]
/-- Is there such a date? -/
def realDate (y m d : Int) : Prop := (1 ≤ y ∧ y ≤ 9999) ∧ (1 ≤ m ∧ m ≤ 12) ∧ (1 ≤ d ∧ d ≤ mlen y m)
instance (y m d : Int) : Decidable (realDate y m d) := by unfold realDate; infer_instance
theorem right_yes (k : Nat) (hk : 2 ≤ k) (y m d : Int) (h : realDate y m d) : date_Civil_Right.f k y m d = some true := by
  obtain ⟨hy, hm, hd⟩ := h
  unfold date_Civil_Right.f
  rw [if_pos (by omega), length_eq k hk y m hy hm]
  simp only [Option.bind_some]
  rw [decide_eq_true hd.2]
theorem right_no (k : Nat) (hk : 2 ≤ k) (y m d : Int) (h : ¬ realDate y m d) : date_Civil_Right.f k y m d = some false := by
  unfold date_Civil_Right.f
  by_cases c : d ≥ 1
  · rw [if_pos c]
    by_cases c2 : (1 ≤ y ∧ y ≤ 9999) ∧ (1 ≤ m ∧ m ≤ 12)
    · rw [length_eq k hk y m c2.1 c2.2]
      simp only [Option.bind_some]
      rw [decide_eq_false (fun h2 => h ⟨c2.1, c2.2, c, h2⟩)]
    · rw [length_no k (by omega) y m c2]
      simp only [Option.bind_some]
      rw [decide_eq_false (by omega)]
  · rw [if_neg c]
theorem right_eq (k : Nat) (hk : 2 ≤ k) (y m d : Int) : date_Civil_Right.f k y m d = some (decide (realDate y m d)) := by
  by_cases h : realDate y m d
  · rw [right_yes k hk y m d h, decide_eq_true h]
  · rw [right_no k hk y m d h, decide_eq_false h]
/-- So many months on, of a date that there is. -/
theorem months_ok (k : Nat) (hk : 4 ≤ k) (y m d n : Int) (h : realDate y m d) (hn : -119988 ≤ n ∧ n ≤ 119988) (h0 : 0 ≤ (y - 1) * 12 + m - 1 + n) (h1 : (y - 1) * 12 + m - 1 + n < 119988) :
    date_Civil_Months.f k y m d n = some (((y - 1) * 12 + m - 1 + n) / 12 + 1, ((y - 1) * 12 + m - 1 + n) % 12 + 1, mn d (mlen (((y - 1) * 12 + m - 1 + n) / 12 + 1) (((y - 1) * 12 + m - 1 + n) % 12 + 1)), none) := by
  have hr := h
  obtain ⟨hy, hm, hd⟩ := h
  obtain ⟨k, rfl⟩ : ∃ j, k = j + 1 := ⟨k - 1, by omega⟩
  unfold date_Civil_Months.f
  rw [right_yes _ (by omega) y m d hr]
  simp only [Option.bind_some, if_true]
  rw [if_neg (by omega), decide_eq_false (by omega)]
  simp only [date_Civil_Months.j0, Bool.false_eq_true, if_false]
  rw [w64_ (y - 1) (by omega) (by omega), w64_ ((y - 1) * 12) (by omega) (by omega), w64_ ((y - 1) * 12 + m) (by omega) (by omega), w64_ ((y - 1) * 12 + m - 1) (by omega) (by omega), w64_ ((y - 1) * 12 + m - 1 + n) (by omega) (by omega)]
  generalize (y - 1) * 12 + m - 1 + n = t at *
  rw [if_neg (by omega), if_neg (by omega), tdiv0 h0, tmod0 h0, w64_ (t / 12) (by omega) (by omega), w64_ (t / 12 + 1) (by omega) (by omega), w64_ (t % 12 + 1) (by omega) (by omega), length_eq k (by omega) _ _ (by omega) (by omega)]
  rfl
theorem months_over (k : Nat) (hk : 4 ≤ k) (y m d n : Int) (h : realDate y m d) (hb : -9223372036854775808 ≤ n ∧ n ≤ 9223372036854775807) (hn : ¬ ((-119988 ≤ n ∧ n ≤ 119988) ∧ (0 ≤ (y - 1) * 12 + m - 1 + n ∧ (y - 1) * 12 + m - 1 + n < 119988))) :
    date_Civil_Months.f k y m d n = some (0, 0, 0, some 12) := by
  have hr := h
  obtain ⟨hy, hm, hd⟩ := h
  obtain ⟨k, rfl⟩ : ∃ j, k = j + 1 := ⟨k - 1, by omega⟩
  unfold date_Civil_Months.f
  rw [right_yes _ (by omega) y m d hr]
  simp only [Option.bind_some, if_true]
  by_cases c1 : n < -119988
  · rw [if_pos c1]; simp only [date_Civil_Months.j0, if_true]
  rw [if_neg c1]
  by_cases c2 : n > 119988
  · rw [decide_eq_true c2]; simp only [date_Civil_Months.j0, if_true]
  rw [decide_eq_false c2]
  simp only [date_Civil_Months.j0, Bool.false_eq_true, if_false]
  rw [w64_ (y - 1) (by omega) (by omega), w64_ ((y - 1) * 12) (by omega) (by omega), w64_ ((y - 1) * 12 + m) (by omega) (by omega), w64_ ((y - 1) * 12 + m - 1) (by omega) (by omega), w64_ ((y - 1) * 12 + m - 1 + n) (by omega) (by omega)]
  by_cases c3 : (y - 1) * 12 + m - 1 + n < 0
  · rw [if_pos c3]
  rw [if_neg c3, if_pos (by omega)]
theorem months_arg (k : Nat) (hk : 4 ≤ k) (y m d n : Int) (h : ¬ realDate y m d) : date_Civil_Months.f k y m d n = some (0, 0, 0, some 1) := by
  unfold date_Civil_Months.f
  rw [right_no _ (by omega) y m d h]
  rfl
theorem awake_yes (k : Nat) (hk : 4 ≤ k) : arrearslaw05_awake.f k = some true := by
  unfold arrearslaw05_awake.f
  rw [months_ok k hk 2024 1 31 1 (by decide) (by omega) (by omega) (by omega)]
  decide +kernel

theorem begins_eq (y : Int) (h1 : 1 ≤ y) (h2 : y ≤ 10002) : date_begins.f y = some (dby y) := by
  unfold date_begins.f dby
  rw [w64_ (y - 1) (by omega) (by omega), tdiv0 (by omega), tdiv0 (by omega), tdiv0 (by omega), w64_ ((y - 1) * 365) (by omega) (by omega), w64_ ((y - 1) / 4) (by omega) (by omega), w64_ ((y - 1) / 100) (by omega) (by omega), w64_ ((y - 1) / 400) (by omega) (by omega),
    w64_ ((y - 1) * 365 + (y - 1) / 4) (by omega) (by omega), w64_ ((y - 1) * 365 + (y - 1) / 4 - (y - 1) / 100) (by omega) (by omega), w64_ _ (by omega) (by omega)]
  refine congrArg some ?_
  omega
theorem civil_l2 (n y : Int) (hn : 0 ≤ n ∧ n ≤ 3652058) (hy : 1 ≤ y ∧ y ≤ 9999) (hb : dby y ≤ n) (he : n < dby (y + 1)) :
    ∀ (j k : Nat) (m : Int), 13 - m = j → j + 4 < k → 1 ≤ m ∧ m ≤ 12 → cum y m ≤ n - dby y →
      ∃ m' d', date_Day_Civil.l2 k y (mlen y m) y m (n - dby y - cum y m + 1) = some (y, m', d', none) ∧ IsDate n y m' d' := by
  intro j
  induction j with
  | zero => intro k m hm _ hm2; omega
  | succ j ih =>
    intro k m hm hk hm2 hc
    obtain ⟨k, rfl⟩ : ∃ i, k = i + 1 := ⟨k - 1, by omega⟩
    have hbd := mlen_bd y m
    have hcs := cum_succ y m hm2.1 hm2.2
    have hcb := cum_bd y m hm2.1 (by omega)
    simp only [date_Day_Civil.l2]
    by_cases c : n - dby y - cum y m + 1 > mlen y m
    · rw [if_pos c]
      have hm3 : m < 12 := by
        by_cases h : m < 12
        · exact h
        · obtain rfl : m = 12 := by omega
          rw [show (12 : Int) + 1 = 13 by omega, cum_end] at hcs
          have := dby_succ y hy.1
          omega
      have hdb := dby_bd y hy.1 (by omega)
      rw [w64_ (m + 1) (by omega) (by omega), w64_ _ (by omega) (by omega), length_eq k (by omega) y (m + 1) hy (by omega)]
      simp only [Option.bind_some]
      rw [show n - dby y - cum y m + 1 - mlen y m = n - dby y - cum y (m + 1) + 1 by omega]
      exact ih k (m + 1) (by omega) (by omega) (by omega) (by omega)
    · rw [if_neg c]
      exact ⟨m, _, rfl, dates_exist n hn.1 hn.2 hy hb he hm2 hc (by omega)⟩
theorem civil_l1 (n : Int) (hn : 0 ≤ n ∧ n ≤ 3652058) : ∀ (j k : Nat) (y : Int), 9999 - y = j → j + 30 < k → 1 ≤ y → dby y ≤ n →
    ∃ y' m' d', date_Day_Civil.l1 k n y = some (y', m', d', none) ∧ IsDate n y' m' d' := by
  intro j
  induction j with
  | zero =>
    intro k y hy hk h1 hb
    obtain ⟨k, rfl⟩ : ∃ i, k = i + 1 := ⟨k - 1, by omega⟩
    obtain rfl : y = 9999 := by omega
    have ht := dby_top
    simp only [date_Day_Civil.l1]
    rw [w64_ (9999 + 1) (by omega) (by omega), w64_ n (by omega) (by omega), begins_eq (9999 + 1) (by omega) (by omega), begins_eq 9999 (by omega) (by omega), length_eq k (by omega) 9999 1 (by omega) (by omega)]
    simp only [Option.bind_some]
    rw [if_neg (by rw [show (9999 : Int) + 1 = 10000 by omega]; omega)]
    have hdb := dby_bd 9999 (by omega) (by omega)
    rw [w64_ (n - dby 9999) (by omega) (by omega), w64_ (n - dby 9999 + 1) (by omega) (by omega)]
    obtain ⟨m', d', e, hd⟩ := civil_l2 n 9999 hn (by omega) hb (by rw [show (9999 : Int) + 1 = 10000 by omega]; omega) 12 k 1 (by omega) (by omega) (by omega) (by rw [cum_one]; omega)
    rw [cum_one, show n - dby 9999 - 0 + 1 = n - dby 9999 + 1 by omega] at e
    exact ⟨_, m', d', e, hd⟩
  | succ j ih =>
    intro k y hy hk h1 hb
    obtain ⟨k, rfl⟩ : ∃ i, k = i + 1 := ⟨k - 1, by omega⟩
    simp only [date_Day_Civil.l1]
    rw [w64_ (y + 1) (by omega) (by omega), w64_ n (by omega) (by omega), begins_eq (y + 1) (by omega) (by omega), begins_eq y (by omega) (by omega), length_eq k (by omega) y 1 (by omega) (by omega)]
    simp only [Option.bind_some]
    by_cases c : dby (y + 1) ≤ n
    · rw [if_pos c]
      exact ih k (y + 1) (by omega) (by omega) (by omega) c
    · rw [if_neg c]
      have hdb := dby_bd y (by omega) (by omega)
      rw [w64_ (n - dby y) (by omega) (by omega), w64_ (n - dby y + 1) (by omega) (by omega)]
      obtain ⟨m', d', e, hd⟩ := civil_l2 n y hn (by omega) hb (by omega) 12 k 1 (by omega) (by omega) (by omega) (by rw [cum_one]; omega)
      rw [cum_one, show n - dby y - 0 + 1 = n - dby y + 1 by omega] at e
      exact ⟨_, m', d', e, hd⟩
theorem civil_l0 (n : Int) (hn : 0 ≤ n ∧ n ≤ 3652058) : ∀ (j k : Nat) (y : Int), y - 1 = j → y ≤ 10000 → 10100 + j < k →
    ∃ y' m' d', date_Day_Civil.l0 k n y = some (y', m', d', none) ∧ IsDate n y' m' d' := by
  intro j
  induction j with
  | zero =>
    intro k y hy hy2 hk
    obtain ⟨k, rfl⟩ : ∃ i, k = i + 1 := ⟨k - 1, by omega⟩
    obtain rfl : y = 1 := by omega
    have e1 : dby 1 = 0 := by decide
    simp only [date_Day_Civil.l0]
    rw [w64_ n (by omega) (by omega), begins_eq 1 (by omega) (by omega)]
    simp only [Option.bind_some]
    rw [if_neg (by omega)]
    exact civil_l1 n hn 9998 k 1 (by omega) (by omega) (by omega) (by omega)
  | succ j ih =>
    intro k y hy hy2 hk
    obtain ⟨k, rfl⟩ : ∃ i, k = i + 1 := ⟨k - 1, by omega⟩
    simp only [date_Day_Civil.l0]
    rw [w64_ n (by omega) (by omega), begins_eq y (by omega) (by omega)]
    simp only [Option.bind_some]
    by_cases c : dby y > n
    · rw [if_pos c, w64_ (y - 1) (by omega) (by omega)]
      exact ih k (y - 1) (by omega) (by omega) (by omega)
    · rw [if_neg c]
      have hy3 : y ≤ 9999 := by
        by_cases h : 9999 < y
        · have := dby_mono (a := 10000) (b := y) (by omega) (by omega)
          rw [dby_top] at this
          omega
        · omega
      exact civil_l1 n hn (9999 - y).toNat k y (by omega) (by omega) (by omega) (by omega)
theorem civil_ok (n : Int) (hn : 0 ≤ n ∧ n ≤ 3652058) (k : Nat) (hk : 20200 ≤ k) : ∃ y m d, date_Day_Civil.f k n = some (y, m, d, none) ∧ IsDate n y m d := by
  unfold date_Day_Civil.f date_Day_Right.f
  rw [if_pos (by omega), decide_eq_true hn.2]
  simp only [Option.bind_some, if_true]
  rw [w64_ n (by omega) (by omega), w64_ (n * 400) (by omega) (by omega), tdiv0 (by omega), w64_ (n * 400 / 146097) (by omega) (by omega), w64_ _ (by omega) (by omega)]
  exact civil_l0 n hn (n * 400 / 146097 + 1 - 1).toNat k _ (by omega) (by omega) (by omega)
theorem civil_no (n : Int) (h : ¬ (0 ≤ n ∧ n ≤ 3652058)) (k : Nat) : date_Day_Civil.f k n = some (0, 0, 0, some 1) := by
  unfold date_Day_Civil.f date_Day_Right.f
  by_cases c : n ≥ 0
  · rw [if_pos c, decide_eq_false (by omega)]
    rfl
  · rw [if_neg c]
    rfl
theorem real_of {n y m d : Int} (h : IsDate n y m d) : realDate y m d := ⟨h.hy, h.hm, h.hd⟩

theorem itoa_eq {n : Int} (h0 : 0 ≤ n) (h1 : n ≤ 9999) : strconv_Itoa.f n = some ⟨(Go.Lib.itoa n).toArray⟩ := by
  unfold strconv_Itoa.f
  rw [if_pos (by omega)]
theorem pad_step (k : Nat) (size : Int) (l : List UInt8) (h : (l.length : Int) < size) (hl : l.length ≤ 10) : date_pad.l0 (k + 1) size ⟨l.toArray⟩ = date_pad.l0 k size ⟨(48 :: l).toArray⟩ := by
  simp only [date_pad.l0]
  rw [mk_size, if_pos h, if_pos (by omega), show (⟨#[48]⟩ : ByteArray) = ⟨[48].toArray⟩ from rfl, mk_append]; rfl
theorem pad_done (k : Nat) (size : Int) (l : List UInt8) (h : ¬ (l.length : Int) < size) : date_pad.l0 (k + 1) size ⟨l.toArray⟩ = some ⟨l.toArray⟩ := by
  simp only [date_pad.l0]
  rw [mk_size, if_neg h]
theorem pad_two {n : Int} (h0 : 0 ≤ n) (h1 : n ≤ 99) (k : Nat) (hk : 2 ≤ k) : date_pad.f k n 2 = some ⟨(twoD n).toArray⟩ := by
  obtain ⟨k, rfl⟩ : ∃ j, k = j + 2 := ⟨k - 2, by omega⟩
  unfold date_pad.f
  rw [itoa_eq h0 (by omega)]
  simp only [Option.bind_some]
  by_cases c : n < 10
  · rw [itoa_1 h0 c, pad_step _ _ _ (by simp) (by simp), pad_done _ _ _ (by simp)]
    unfold twoD
    rw [show n / 10 = 0 by omega, show n % 10 = n by omega]; rfl
  · rw [itoa_2 (by omega) (by omega), pad_done _ _ _ (by simp [two_length])]
theorem pad_four {n : Int} (h0 : 0 ≤ n) (h1 : n ≤ 9999) (k : Nat) (hk : 4 ≤ k) : date_pad.f k n 4 = some ⟨(fourD n).toArray⟩ := by
  obtain ⟨k, rfl⟩ : ∃ j, k = j + 4 := ⟨k - 4, by omega⟩
  unfold date_pad.f
  rw [itoa_eq h0 (by omega)]
  simp only [Option.bind_some]
  by_cases c : n < 10
  · rw [itoa_1 h0 c, pad_step _ _ _ (by simp) (by simp), pad_step _ _ _ (by simp) (by simp), pad_step _ _ _ (by simp) (by simp), pad_done _ _ _ (by simp)]
    unfold fourD
    rw [show n / 1000 = 0 by omega, show n / 100 % 10 = 0 by omega, show n / 10 % 10 = 0 by omega, show n % 10 = n by omega]; rfl
  by_cases c2 : n < 100
  · rw [itoa_2 (by omega) c2, pad_step _ _ _ (by simp [two_length]) (by simp [two_length]), pad_step _ _ _ (by simp [two_length]) (by simp [two_length]), pad_done _ _ _ (by simp [two_length])]
    unfold fourD twoD
    rw [show n / 1000 = 0 by omega, show n / 100 % 10 = 0 by omega, show n / 10 % 10 = n / 10 by omega]; rfl
  by_cases c3 : n < 1000
  · rw [itoa_3 (by omega) c3, pad_step _ _ _ (by simp) (by simp), pad_done _ _ _ (by simp)]
    unfold fourD
    rw [show n / 1000 = 0 by omega, show n / 100 % 10 = n / 100 by omega]; rfl
  · rw [itoa_4 (by omega) (by omega), pad_done _ _ _ (by simp [four_length])]
theorem text_ok (k : Nat) (hk : 20200 ≤ k) (n y m d : Int) (h : IsDate n y m d) : date_Day_Text.f k n = some ⟨(textOf y m d).toArray⟩ := by
  obtain ⟨y', m', d', e, hd⟩ := civil_ok n h.range k hk
  obtain ⟨rfl, rfl, rfl⟩ := h.unique hd
  have h1 := h.hy; have h2 := h.hm; have h3 := h.hd; have h4 := mlen_bd y m
  unfold date_Day_Text.f
  rw [e]
  simp only [Option.bind_some, Option.isNone_none, if_true]
  rw [pad_four (by omega) (by omega) k (by omega), pad_two (n := m) (by omega) (by omega) k (by omega), pad_two (n := d) (by omega) (by omega) k (by omega)]
  simp only [Option.bind_some]
  rw [show (⟨#[45]⟩ : ByteArray) = ⟨[45].toArray⟩ from rfl]
  simp only [mk_append, mk_size, List.length_append, two_length, four_length, List.length_cons, List.length_nil]
  rw [if_pos (by decide), if_pos (by decide), if_pos (by decide), if_pos (by decide)]
  unfold textOf
  simp
theorem text_no (k : Nat) (n : Int) (h : ¬ (0 ≤ n ∧ n ≤ 3652058)) : date_Day_Text.f k n = some ⟨#[]⟩ := by
  unfold date_Day_Text.f
  rw [civil_no n h k]
  rfl

theorem dright_eq (n : Int) : date_Day_Right.f n = some (decide (0 ≤ n ∧ n ≤ 3652058)) := by
  unfold date_Day_Right.f
  by_cases c : n ≥ 0
  · rw [if_pos c]
    exact congrArg some (decide_eq_decide.2 (by omega))
  · rw [if_neg c, decide_eq_false (by omega)]
theorem pure_proved : arrearslaw05_DateOrders.Pure := by
  intro a b ha hb
  refine ⟨20210, ?_⟩
  unfold arrearslaw05_DateOrders.f
  rw [awake_yes _ (by omega)]
  simp only [Option.bind_some, if_true]
  rw [dright_eq a, dright_eq b]
  simp only [Option.bind_some]
  have e0 : arrearslaw05_DateOrders.j0 20210 a b true = some true := by simp only [arrearslaw05_DateOrders.j0, if_true]
  by_cases c1 : 0 ≤ a ∧ a ≤ 3652058
  · rw [decide_eq_true c1]
    simp only [if_true]
    by_cases c2 : 0 ≤ b ∧ b ≤ 3652058
    · rw [decide_eq_true c2]
      simp only [arrearslaw05_DateOrders.j0, Bool.not_true, Bool.false_eq_true, if_false]
      obtain ⟨y, m, d, e, hd⟩ := civil_ok a c1 20209 (by omega)
      obtain ⟨y', m', d', e', hd'⟩ := civil_ok b c2 20209 (by omega)
      have hl := hd.later hd'
      have t := text_ok 20209 (by omega) a y m d hd
      have t' := text_ok 20209 (by omega) b y' m' d' hd'
      have b1 := mlen_bd y m; have b2 := mlen_bd y' m'
      have hy := hd.hy; have hm := hd.hm; have hdd := hd.hd
      have hy' := hd'.hy; have hm' := hd'.hm; have hdd' := hd'.hd
      have tl := text_less (y := y) (m := m) (d := d) (y' := y') (m' := m') (d' := d') (by omega) (by omega) (by omega) (by omega) (by omega) (by omega)
      rw [e, e', t, t']
      simp only [Option.bind_some, Option.isNone_none, if_true, ByteArray.toList_mk, tl]
      have hab : decide (a < b) = decide (y < y' ∨ y = y' ∧ (m < m' ∨ m = m' ∧ d < d')) := decide_eq_decide.2 hl.symm
      rw [hab]
      by_cases q1 : y < y'
      · rw [if_pos q1, decide_eq_true (Or.inl q1)]; rfl
      rw [if_neg q1]
      by_cases q2 : y = y'
      · rw [if_pos q2]
        by_cases q3 : m < m'
        · rw [if_pos q3, decide_eq_true (Or.inr ⟨q2, Or.inl q3⟩)]; rfl
        rw [if_neg q3]
        by_cases q4 : m = m'
        · rw [if_pos q4]
          have : decide (d < d') = decide (y < y' ∨ y = y' ∧ (m < m' ∨ m = m' ∧ d < d')) := decide_eq_decide.2 ⟨fun q => .inr ⟨q2, .inr ⟨q4, q⟩⟩, fun q => by omega⟩
          rw [this]
          simp
        · rw [if_neg q4, decide_eq_false (by omega)]; rfl
      · rw [if_neg q2, decide_eq_false (by omega)]; rfl
    · rw [decide_eq_false c2]
      exact e0
  · rw [decide_eq_false c1]
    exact e0

end Go.Proofs.YtbgjeelbbmcpeaaDoor.PDateOrders
