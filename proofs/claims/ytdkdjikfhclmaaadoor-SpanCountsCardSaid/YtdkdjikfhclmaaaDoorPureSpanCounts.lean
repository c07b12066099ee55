/- The pure statement behind the law SpanCounts, over numbers and lists alone. Conditions: those that the printed statement names (each number is of its kind). -/
import Derived.Test.YtdkdjikfhclmaaaDoorDSpanCounts
import Derived.Test.YtdkdjikfhclmaaaDoorMcal
import Derived.Test.YtdkdjikfhclmaaaDoorMtxt
set_option linter.unusedVariables false
set_option linter.unusedSimpArgs false
namespace Go.Proofs.YtdkdjikfhclmaaaDoor.PSpanCounts
open Go.RowKit Go.Proofs.YtdkdjikfhclmaaaDoorW.PrintWords Go.Proofs.YtdkdjikfhclmaaaDoorW.PrintLast Go.Proofs.YtdkdjikfhclmaaaDoorW.PrintMore Go.Proofs.YtdkdjikfhclmaaaDoor.M

theorem w64_ (x : Int) (h0 : -1000000000000000 ≤ x) (h1 : x ≤ 1000000000000000) : wrap64 x = x := by unfold wrap64; omega
theorem leap_eq (y : Int) (h1 : 1 ≤ y) (h2 : y ≤ 9999) : date_Leap.f y = some (isLeap y) := by
  unfold date_Leap.f isLeap
  rw [if_pos (by omega), if_pos (by omega), tmod0 (by omega), tmod0 (by omega), tmod0 (by omega)]
  by_cases c : y % 4 = 0
  · rw [if_pos c]
    by_cases c1 : y % 100 = 0
    · rw [if_pos c1]
      refine congrArg some ?_
      rw [Bool.eq_iff_iff]
      simp
      omega
    · rw [if_neg c1, decide_eq_true ⟨c, .inl c1⟩]
  · rw [if_neg c, decide_eq_false (by omega)]
theorem length_eq (k : Nat) (hk : 2 ≤ k) (y m : Int) (hy : 1 ≤ y ∧ y ≤ 9999) (hm : 1 ≤ m ∧ m ≤ 12) : date_Length.f k y m = some (mlen y m) := by
  obtain ⟨k, rfl⟩ : ∃ j, k = j + 2 := ⟨k - 2, by omega⟩
  unfold date_Length.f mlen
  rw [if_neg (by omega), if_neg (by omega), if_neg (by omega), decide_eq_false (by omega)]
  simp only [date_Length.j0, date_Length.j1, Bool.false_eq_true, if_false]
  have hl := leap_eq y hy.1 hy.2
  by_cases c4 : m = 4
  · subst c4; rfl
  rw [if_neg c4]
  by_cases c6 : m = 6
  · subst c6; rfl
  rw [if_neg c6]
  by_cases c9 : m = 9
  · subst c9; rfl
  rw [if_neg c9]
  by_cases c11 : m = 11
  · subst c11; rfl
  rw [beq_eq_false_iff_ne.2 c11]
  simp only [Bool.false_eq_true, if_false]
  have hne : ¬ (m = 4 ∨ m = 6 ∨ m = 9 ∨ m = 11) := by omega
  rw [if_neg hne]
  by_cases c2 : m = 2
  · rw [if_pos c2, if_pos c2, hl]
    simp only [Option.bind_some]
    unfold lp
    cases isLeap y <;> rfl
  · rw [if_neg c2, if_neg c2]
theorem length_no (k : Nat) (hk : 1 ≤ k) (y m : Int) (h : ¬ ((1 ≤ y ∧ y ≤ 9999) ∧ (1 ≤ m ∧ m ≤ 12))) : date_Length.f k y m = some 0 := by
  obtain ⟨k, rfl⟩ : ∃ j, k = j + 1 := ⟨k - 1, by omega⟩
  have e : date_Length.j0 (k + 1) y m true = some 0 := by simp only [date_Length.j0, if_true]
  unfold date_Length.f
  by_cases c1 : y < 1
  · rw [if_pos c1, e]
  rw [if_neg c1]
  by_cases c2 : y > 9999
  · rw [if_pos c2, e]
  rw [if_neg c2]
  by_cases c3 : m < 1
  · rw [if_pos c3, e]
  rw [if_neg c3, decide_eq_true (by omega), e]
/-- Is there such a date? -/
def realDate (y m d : Int) : Prop := (1 ≤ y ∧ y ≤ 9999) ∧ (1 ≤ m ∧ m ≤ 12) ∧ (1 ≤ d ∧ d ≤ mlen y m)
instance (y m d : Int) : Decidable (realDate y m d) := by unfold realDate; infer_instance
theorem right_yes (k : Nat) (hk : 2 ≤ k) (y m d : Int) (h : realDate y m d) : date_Civil_Right.f k y m d = some true := by
  obtain ⟨hy, hm, hd⟩ := h
  unfold date_Civil_Right.f
  rw [if_pos (by omega), length_eq k hk y m hy hm]
  simp only [Option.bind_some]
  rw [decide_eq_true hd.2]
theorem right_no (k : Nat) (hk : 2 ≤ k) (y m d : Int) (h : ¬ realDate y m d) : date_Civil_Right.f k y m d = some false := by
  unfold date_Civil_Right.f
  by_cases c : d ≥ 1
  · rw [if_pos c]
    by_cases c2 : (1 ≤ y ∧ y ≤ 9999) ∧ (1 ≤ m ∧ m ≤ 12)
    · rw [length_eq k hk y m c2.1 c2.2]
      simp only [Option.bind_some]
      rw [decide_eq_false (fun h2 => h ⟨c2.1, c2.2, c, h2⟩)]
    · rw [length_no k (by omega) y m c2]
      simp only [Option.bind_some]
      rw [decide_eq_false (by omega)]
  · rw [if_neg c]
theorem right_eq (k : Nat) (hk : 2 ≤ k) (y m d : Int) : date_Civil_Right.f k y m d = some (decide (realDate y m d)) := by
  by_cases h : realDate y m d
  · rw [right_yes k hk y m d h, decide_eq_true h]
  · rw [right_no k hk y m d h, decide_eq_false h]


theorem begins_eq (y : Int) (h1 : 1 ≤ y) (h2 : y ≤ 10002) : date_begins.f y = some (dby y) := by
  unfold date_begins.f dby
  rw [w64_ (y - 1) (by omega) (by omega), tdiv0 (by omega), tdiv0 (by omega), tdiv0 (by omega), w64_ ((y - 1) * 365) (by omega) (by omega), w64_ ((y - 1) / 4) (by omega) (by omega), w64_ ((y - 1) / 100) (by omega) (by omega), w64_ ((y - 1) / 400) (by omega) (by omega),
    w64_ ((y - 1) * 365 + (y - 1) / 4) (by omega) (by omega), w64_ ((y - 1) * 365 + (y - 1) / 4 - (y - 1) / 100) (by omega) (by omega), w64_ _ (by omega) (by omega)]
  refine congrArg some ?_
  omega

theorem civil_l2 (n y : Int) (hn : 0 ≤ n ∧ n ≤ 3652058) (hy : 1 ≤ y ∧ y ≤ 9999) (hb : dby y ≤ n) (he : n < dby (y + 1)) :
    ∀ (j k : Nat) (m : Int), 13 - m = j → j + 4 < k → 1 ≤ m ∧ m ≤ 12 → cum y m ≤ n - dby y →
      ∃ m' d', date_Day_Civil.l2 k y (mlen y m) y m (n - dby y - cum y m + 1) = some (y, m', d', none) ∧ IsDate n y m' d' := by
  intro j
  induction j with
  | zero => intro k m hm _ hm2; omega
  | succ j ih =>
    intro k m hm hk hm2 hc
    obtain ⟨k, rfl⟩ : ∃ i, k = i + 1 := ⟨k - 1, by omega⟩
    have hbd := mlen_bd y m
    have hcs := cum_succ y m hm2.1 hm2.2
    have hcb := cum_bd y m hm2.1 (by omega)
    simp only [date_Day_Civil.l2]
    by_cases c : n - dby y - cum y m + 1 > mlen y m
    · rw [if_pos c]
      have hm3 : m < 12 := by
        by_cases h : m < 12
        · exact h
        · obtain rfl : m = 12 := by omega
          rw [show (12 : Int) + 1 = 13 by omega, cum_end] at hcs
          have := dby_succ y hy.1
          omega
      have hdb := dby_bd y hy.1 (by omega)
      rw [w64_ (m + 1) (by omega) (by omega), w64_ _ (by omega) (by omega), length_eq k (by omega) y (m + 1) hy (by omega)]
      simp only [Option.bind_some]
      rw [show n - dby y - cum y m + 1 - mlen y m = n - dby y - cum y (m + 1) + 1 by omega]
      exact ih k (m + 1) (by omega) (by omega) (by omega) (by omega)
    · rw [if_neg c]
      exact ⟨m, _, rfl, dates_exist n hn.1 hn.2 hy hb he hm2 hc (by omega)⟩
theorem civil_l1 (n : Int) (hn : 0 ≤ n ∧ n ≤ 3652058) : ∀ (j k : Nat) (y : Int), 9999 - y = j → j + 30 < k → 1 ≤ y → dby y ≤ n →
    ∃ y' m' d', date_Day_Civil.l1 k n y = some (y', m', d', none) ∧ IsDate n y' m' d' := by
  intro j
  induction j with
  | zero =>
    intro k y hy hk h1 hb
    obtain ⟨k, rfl⟩ : ∃ i, k = i + 1 := ⟨k - 1, by omega⟩
    obtain rfl : y = 9999 := by omega
    have ht := dby_top
    simp only [date_Day_Civil.l1]
    rw [w64_ (9999 + 1) (by omega) (by omega), w64_ n (by omega) (by omega), begins_eq (9999 + 1) (by omega) (by omega), begins_eq 9999 (by omega) (by omega), length_eq k (by omega) 9999 1 (by omega) (by omega)]
    simp only [Option.bind_some]
    rw [if_neg (by rw [show (9999 : Int) + 1 = 10000 by omega]; omega)]
    have hdb := dby_bd 9999 (by omega) (by omega)
    rw [w64_ (n - dby 9999) (by omega) (by omega), w64_ (n - dby 9999 + 1) (by omega) (by omega)]
    obtain ⟨m', d', e, hd⟩ := civil_l2 n 9999 hn (by omega) hb (by rw [show (9999 : Int) + 1 = 10000 by omega]; omega) 12 k 1 (by omega) (by omega) (by omega) (by rw [cum_one]; omega)
    rw [cum_one, show n - dby 9999 - 0 + 1 = n - dby 9999 + 1 by omega] at e
    exact ⟨_, m', d', e, hd⟩
  | succ j ih =>
    intro k y hy hk h1 hb
    obtain ⟨k, rfl⟩ : ∃ i, k = i + 1 := ⟨k - 1, by omega⟩
    simp only [date_Day_Civil.l1]
    rw [w64_ (y + 1) (by omega) (by omega), w64_ n (by omega) (by omega), begins_eq (y + 1) (by omega) (by omega), begins_eq y (by omega) (by omega), length_eq k (by omega) y 1 (by omega) (by omega)]
    simp only [Option.bind_some]
    by_cases c : dby (y + 1) ≤ n
    · rw [if_pos c]
      exact ih k (y + 1) (by omega) (by omega) (by omega) c
    · rw [if_neg c]
      have hdb := dby_bd y (by omega) (by omega)
      rw [w64_ (n - dby y) (by omega) (by omega), w64_ (n - dby y + 1) (by omega) (by omega)]
      obtain ⟨m', d', e, hd⟩ := civil_l2 n y hn (by omega) hb (by omega) 12 k 1 (by omega) (by omega) (by omega) (by rw [cum_one]; omega)
      rw [cum_one, show n - dby y - 0 + 1 = n - dby y + 1 by omega] at e
      exact ⟨_, m', d', e, hd⟩
theorem civil_l0 (n : Int) (hn : 0 ≤ n ∧ n ≤ 3652058) : ∀ (j k : Nat) (y : Int), y - 1 = j → y ≤ 10000 → 10100 + j < k →
    ∃ y' m' d', date_Day_Civil.l0 k n y = some (y', m', d', none) ∧ IsDate n y' m' d' := by
  intro j
  induction j with
  | zero =>
    intro k y hy hy2 hk
    obtain ⟨k, rfl⟩ : ∃ i, k = i + 1 := ⟨k - 1, by omega⟩
    obtain rfl : y = 1 := by omega
    have e1 : dby 1 = 0 := by decide
    simp only [date_Day_Civil.l0]
    rw [w64_ n (by omega) (by omega), begins_eq 1 (by omega) (by omega)]
    simp only [Option.bind_some]
    rw [if_neg (by omega)]
    exact civil_l1 n hn 9998 k 1 (by omega) (by omega) (by omega) (by omega)
  | succ j ih =>
    intro k y hy hy2 hk
    obtain ⟨k, rfl⟩ : ∃ i, k = i + 1 := ⟨k - 1, by omega⟩
    simp only [date_Day_Civil.l0]
    rw [w64_ n (by omega) (by omega), begins_eq y (by omega) (by omega)]
    simp only [Option.bind_some]
    by_cases c : dby y > n
    · rw [if_pos c, w64_ (y - 1) (by omega) (by omega)]
      exact ih k (y - 1) (by omega) (by omega) (by omega)
    · rw [if_neg c]
      have hy3 : y ≤ 9999 := by
        by_cases h : 9999 < y
        · have := dby_mono (a := 10000) (b := y) (by omega) (by omega)
          rw [dby_top] at this
          omega
        · omega
      exact civil_l1 n hn (9999 - y).toNat k y (by omega) (by omega) (by omega) (by omega)
theorem civil_ok (n : Int) (hn : 0 ≤ n ∧ n ≤ 3652058) (k : Nat) (hk : 20200 ≤ k) : ∃ y m d, date_Day_Civil.f k n = some (y, m, d, none) ∧ IsDate n y m d := by
  unfold date_Day_Civil.f date_Day_Right.f
  rw [if_pos (by omega), decide_eq_true hn.2]
  simp only [Option.bind_some, if_true]
  rw [w64_ n (by omega) (by omega), w64_ (n * 400) (by omega) (by omega), tdiv0 (by omega), w64_ (n * 400 / 146097) (by omega) (by omega), w64_ _ (by omega) (by omega)]
  exact civil_l0 n hn (n * 400 / 146097 + 1 - 1).toNat k _ (by omega) (by omega) (by omega)
theorem civil_no (n : Int) (h : ¬ (0 ≤ n ∧ n ≤ 3652058)) (k : Nat) : date_Day_Civil.f k n = some (0, 0, 0, some 1) := by
  unfold date_Day_Civil.f date_Day_Right.f
  by_cases c : n ≥ 0
  · rw [if_pos c, decide_eq_false (by omega)]
    rfl
  · rw [if_neg c]
    rfl
theorem real_of {n y m d : Int} (h : IsDate n y m d) : realDate y m d := ⟨h.hy, h.hm, h.hd⟩

theorem itoa_eq {n : Int} (h0 : 0 ≤ n) (h1 : n ≤ 9999) : strconv_Itoa.f n = some ⟨(Go.Lib.itoa n).toArray⟩ := by
  unfold strconv_Itoa.f
  rw [if_pos (by omega)]
theorem pad_step (k : Nat) (size : Int) (l : List UInt8) (h : (l.length : Int) < size) (hl : l.length ≤ 10) : date_pad.l0 (k + 1) size ⟨l.toArray⟩ = date_pad.l0 k size ⟨(48 :: l).toArray⟩ := by
  simp only [date_pad.l0]
  rw [mk_size, if_pos h, if_pos (by omega), show (⟨#[48]⟩ : ByteArray) = ⟨[48].toArray⟩ from rfl, mk_append]; rfl
theorem pad_done (k : Nat) (size : Int) (l : List UInt8) (h : ¬ (l.length : Int) < size) : date_pad.l0 (k + 1) size ⟨l.toArray⟩ = some ⟨l.toArray⟩ := by
  simp only [date_pad.l0]
  rw [mk_size, if_neg h]
theorem pad_two {n : Int} (h0 : 0 ≤ n) (h1 : n ≤ 99) (k : Nat) (hk : 2 ≤ k) : date_pad.f k n 2 = some ⟨(twoD n).toArray⟩ := by
  obtain ⟨k, rfl⟩ : ∃ j, k = j + 2 := ⟨k - 2, by omega⟩
  unfold date_pad.f
  rw [itoa_eq h0 (by omega)]
  simp only [Option.bind_some]
  by_cases c : n < 10
  · rw [itoa_1 h0 c, pad_step _ _ _ (by simp) (by simp), pad_done _ _ _ (by simp)]
    unfold twoD
    rw [show n / 10 = 0 by omega, show n % 10 = n by omega]; rfl
  · rw [itoa_2 (by omega) (by omega), pad_done _ _ _ (by simp [two_length])]
theorem pad_four {n : Int} (h0 : 0 ≤ n) (h1 : n ≤ 9999) (k : Nat) (hk : 4 ≤ k) : date_pad.f k n 4 = some ⟨(fourD n).toArray⟩ := by
  obtain ⟨k, rfl⟩ : ∃ j, k = j + 4 := ⟨k - 4, by omega⟩
  unfold date_pad.f
  rw [itoa_eq h0 (by omega)]
  simp only [Option.bind_some]
  by_cases c : n < 10
  · rw [itoa_1 h0 c, pad_step _ _ _ (by simp) (by simp), pad_step _ _ _ (by simp) (by simp), pad_step _ _ _ (by simp) (by simp), pad_done _ _ _ (by simp)]
    unfold fourD
    rw [show n / 1000 = 0 by omega, show n / 100 % 10 = 0 by omega, show n / 10 % 10 = 0 by omega, show n % 10 = n by omega]; rfl
  by_cases c2 : n < 100
  · rw [itoa_2 (by omega) c2, pad_step _ _ _ (by simp [two_length]) (by simp [two_length]), pad_step _ _ _ (by simp [two_length]) (by simp [two_length]), pad_done _ _ _ (by simp [two_length])]
    unfold fourD twoD
    rw [show n / 1000 = 0 by omega, show n / 100 % 10 = 0 by omega, show n / 10 % 10 = n / 10 by omega]; rfl
  by_cases c3 : n < 1000
  · rw [itoa_3 (by omega) c3, pad_step _ _ _ (by simp) (by simp), pad_done _ _ _ (by simp)]
    unfold fourD
    rw [show n / 1000 = 0 by omega, show n / 100 % 10 = n / 100 by omega]; rfl
  · rw [itoa_4 (by omega) (by omega), pad_done _ _ _ (by simp [four_length])]
theorem text_ok (k : Nat) (hk : 20200 ≤ k) (n y m d : Int) (h : IsDate n y m d) : date_Day_Text.f k n = some ⟨(textOf y m d).toArray⟩ := by
  obtain ⟨y', m', d', e, hd⟩ := civil_ok n h.range k hk
  obtain ⟨rfl, rfl, rfl⟩ := h.unique hd
  have h1 := h.hy; have h2 := h.hm; have h3 := h.hd; have h4 := mlen_bd y m
  unfold date_Day_Text.f
  rw [e]
  simp only [Option.bind_some, Option.isNone_none, if_true]
  rw [pad_four (by omega) (by omega) k (by omega), pad_two (n := m) (by omega) (by omega) k (by omega), pad_two (n := d) (by omega) (by omega) k (by omega)]
  simp only [Option.bind_some]
  rw [show (⟨#[45]⟩ : ByteArray) = ⟨[45].toArray⟩ from rfl]
  simp only [mk_append, mk_size, List.length_append, two_length, four_length, List.length_cons, List.length_nil]
  rw [if_pos (by decide), if_pos (by decide), if_pos (by decide), if_pos (by decide)]
  unfold textOf
  simp
theorem text_no (k : Nat) (n : Int) (h : ¬ (0 ≤ n ∧ n ≤ 3652058)) : date_Day_Text.f k n = some ⟨#[]⟩ := by
  unfold date_Day_Text.f
  rw [civil_no n h k]
  rfl



/-- The day's number of a date. -/
def dayNo (y m d : Int) : Int := dby y + cum y m + d - 1
theorem dayNo_isDate {y m d : Int} (h : realDate y m d) : IsDate (dayNo y m d) y m d := ⟨h.1, h.2.1, h.2.2, rfl⟩
theorem number_l0 (y m d : Int) (h : realDate y m d) : ∀ (j k : Nat) (i : Int), m - i = j → j + 3 < k → 1 ≤ i →
    date_Civil_Number.l0 k (dby y + d - 1 + cum y i) i y m d = some (dayNo y m d, none) := by
  obtain ⟨hy, hm, hd⟩ := h
  have hb := dby_bd y hy.1 (by omega)
  have hl := mlen_bd y m
  intro j
  induction j with
  | zero =>
    intro k i hi hk h1
    obtain ⟨k, rfl⟩ : ∃ q, k = q + 1 := ⟨k - 1, by omega⟩
    obtain rfl : i = m := by omega
    have hc := cum_bd y i h1 (by omega)
    simp only [date_Civil_Number.l0]
    rw [if_neg (by omega)]
    have : wrap32 (dby y + d - 1 + cum y i) = dayNo y i d := by unfold wrap32 dayNo; omega
    rw [this]
  | succ j ih =>
    intro k i hi hk h1
    obtain ⟨k, rfl⟩ : ∃ q, k = q + 1 := ⟨k - 1, by omega⟩
    have hc := cum_bd y i h1 (by omega)
    have hcs := cum_succ y i h1 (by omega)
    have hl2 := mlen_bd y i
    simp only [date_Civil_Number.l0]
    rw [if_pos (by omega), length_eq k (by omega) y i hy (by omega)]
    simp only [Option.bind_some]
    rw [w64_ (i + 1) (by omega) (by omega), w64_ _ (by omega) (by omega), show dby y + d - 1 + cum y i + mlen y i = dby y + d - 1 + cum y (i + 1) by omega]
    exact ih k (i + 1) (by omega) (by omega) (by omega)
theorem number_ok (k : Nat) (hk : 20 ≤ k) (y m d : Int) (h : realDate y m d) : date_Civil_Number.f k y m d = some (dayNo y m d, none) := by
  have hy := h.1; have hm := h.2.1; have hd := h.2.2
  have hb := dby_bd y hy.1 (by omega)
  have hl := mlen_bd y m
  unfold date_Civil_Number.f
  rw [right_yes k (by omega) y m d h, begins_eq y hy.1 (by omega)]
  simp only [Option.bind_some, if_true]
  rw [w64_ (dby y + d) (by omega) (by omega), w64_ (dby y + d - 1) (by omega) (by omega)]
  have := number_l0 y m d h (m - 1).toNat k 1 (by omega) (by omega) (by omega)
  rw [cum_one, Int.add_zero] at this
  exact this
theorem number_no (k : Nat) (hk : 2 ≤ k) (y m d : Int) (h : ¬ realDate y m d) : date_Civil_Number.f k y m d = some (0, some 1) := by
  unfold date_Civil_Number.f
  rw [right_no k hk y m d h]
  rfl

theorem atoiV_ok {l : List UInt8} {v : Int} (h : Go.Lib.atoiAll l = .ok v) : atoiV l = v := by unfold atoiV; rw [h]
theorem read_text (k : Nat) (hk : 20300 ≤ k) (y m d : Int) (h : realDate y m d) : date_Read.f k ⟨(textOf y m d).toArray⟩ = some (dayNo y m d, none) := by
  have hy := h.1; have hm := h.2.1; have hd := h.2.2; have hl := mlen_bd y m
  unfold date_Read.f
  rw [if_pos (by rw [mk_size]; rfl), ex04, ex57, ex810, atoiV_ok (atoi_four (n := y) (by omega) (by omega)), atoiV_ok (atoi_two (n := m) (by omega) (by omega)), atoiV_ok (atoi_two (n := d) (by omega) (by omega)), number_ok k (by omega) y m d h]
  simp only [Option.bind_some, Option.isNone_none, if_true]
  rw [text_ok k (by omega) (dayNo y m d) y m d (dayNo_isDate h)]
  simp
theorem read_other (k : Nat) (hk : 20300 ≤ k) (s : ByteArray) (h : ∀ y m d, realDate y m d → s.data.toList ≠ textOf y m d) : date_Read.f k s = some (0, some 15) := by
  unfold date_Read.f
  by_cases hs : s.size = 10
  · rw [if_pos hs]
    generalize atoiV (s.extract 0 4).data.toList = y
    generalize atoiV (s.extract 5 7).data.toList = m
    generalize atoiV (s.extract 8 10).data.toList = d
    by_cases hr : realDate y m d
    · rw [number_ok k (by omega) y m d hr]
      simp only [Option.bind_some, Option.isNone_none, if_true]
      rw [text_ok k (by omega) (dayNo y m d) y m d (dayNo_isDate hr)]
      simp only [Option.bind_some, toList_data]
      have : ((textOf y m d).toArray.toList == s.data.toList) = false := by
        rw [beq_eq_false_iff_ne]
        intro e
        exact h y m d hr (by rw [← e])
      rw [this]
      rfl
    · rw [number_no k (by omega) y m d hr]
      rfl
  · rw [if_neg hs]

/-- Between two dates, as if each month had 30 days. -/
def th (y m d y' m' d' : Int) : Int := 360 * (y' - y) + 30 * (m' - m) + (if 30 ≤ d then (if d' ≤ 30 then d' else 30) else d') - (if d ≤ 30 then d else 30)
theorem year_1 : span_Year.f 1 = some 365 := rfl
theorem year_2 : span_Year.f 2 = some 360 := rfl
theorem year_eq (b : Int) : span_Year.f b = some (if b = 1 then 365 else if b = 2 then 360 else 0) := by
  unfold span_Year.f
  by_cases h1 : b = 1
  · rw [if_pos h1, if_pos h1]
  · rw [if_neg h1, if_neg h1]
    by_cases h2 : b = 2
    · rw [if_pos h2, if_pos h2]
    · rw [if_neg h2, if_neg h2]
theorem mn_eq (a b : Int) : mn a b = if a ≤ b then a else b := by unfold mn; (repeat' split) <;> omega
theorem thirty_eq (y m d y' m' d' : Int) (hy : 1 ≤ y ∧ y ≤ 9999) (hy' : 1 ≤ y' ∧ y' ≤ 9999) (hm : 1 ≤ m ∧ m ≤ 12) (hm' : 1 ≤ m' ∧ m' ≤ 12) (hd : 1 ≤ d ∧ d ≤ 31) (hd' : 1 ≤ d' ∧ d' ≤ 31) : span_thirty.f y m d y' m' d' = some (th y m d y' m' d') := by
  unfold span_thirty.f th
  rw [year_2, mn_eq, mn_eq]
  simp only [Option.bind_some]
  rw [w64_ (y' - y) (by omega) (by omega), w64_ (m' - m) (by omega) (by omega), w64_ (360 * (y' - y)) (by omega) (by omega), w64_ (30 * (m' - m)) (by omega) (by omega), w64_ (360 * (y' - y) + 30 * (m' - m)) (by omega) (by omega)]
  by_cases c : 30 ≤ d
  · rw [if_pos c]
    by_cases c2 : d ≤ 30
    · rw [if_pos c2, if_pos (by omega), w64_ (360 * (y' - y) + 30 * (m' - m) + (if d' ≤ 30 then d' else 30)) (by split <;> omega) (by split <;> omega), w64_ _ (by split <;> omega) (by split <;> omega)]
    · rw [if_neg c2, if_pos rfl, w64_ (360 * (y' - y) + 30 * (m' - m) + (if d' ≤ 30 then d' else 30)) (by split <;> omega) (by split <;> omega), w64_ _ (by split <;> omega) (by split <;> omega)]
  · rw [if_neg c, if_pos (show d ≤ 30 by omega), if_neg (by omega), w64_ (360 * (y' - y) + 30 * (m' - m) + d') (by omega) (by omega), w64_ _ (by omega) (by omega)]
theorem days_j0 (k : Nat) (hk : 1 ≤ k) (b n n' a1 a2 a3 b1 b2 b3 : Int) : span_Days.j0 k b n n' true a1 a2 a3 b1 b2 b3 = some (0, some 1) := by
  obtain ⟨k, rfl⟩ : ∃ j, k = j + 1 := ⟨k - 1, by omega⟩
  simp only [span_Days.j0, if_true]
theorem days_ok (k : Nat) (hk : 20210 ≤ k) (b n n' : Int) (hb : b = 1 ∨ b = 2) {y m d y' m' d' : Int} (h : IsDate n y m d) (h' : IsDate n' y' m' d') (hle : n ≤ n') :
    span_Days.f k b n n' = some (if b = 2 then th y m d y' m' d' else n' - n, none) := by
  obtain ⟨y1, m1, d1, e, hd⟩ := civil_ok n h.range k (by omega)
  obtain ⟨rfl, rfl, rfl⟩ := h.unique hd
  obtain ⟨y2, m2, d2, e', hd'⟩ := civil_ok n' h'.range k (by omega)
  obtain ⟨rfl, rfl, rfl⟩ := h'.unique hd'
  have r1 := h.range; have r2 := h'.range
  have g1 := h.hy; have g2 := h.hm; have g3 := h.hd; have g4 := mlen_bd y m
  have f1 := h'.hy; have f2 := h'.hm; have f3 := h'.hd; have f4 := mlen_bd y' m'
  unfold span_Days.f
  rw [e, e', year_eq]
  simp only [Option.bind_some, Option.isNone_none, if_true]
  obtain ⟨k, rfl⟩ : ∃ j, k = j + 1 := ⟨k - 1, by omega⟩
  rcases hb with rfl | rfl
  · rw [if_neg (show ¬ (if (1 : Int) = 1 then (365 : Int) else if (1 : Int) = 2 then 360 else 0) = 0 by decide), decide_eq_false (show ¬ n' < n by omega)]
    simp only [span_Days.j0, Bool.false_eq_true, if_false]
    rw [if_neg (by omega), if_neg (by omega)]
    have w : wrap32 (n' - n) = n' - n := by unfold wrap32; omega
    rw [w, w64_ _ (by omega) (by omega)]
  · rw [if_neg (show ¬ (if (2 : Int) = 1 then (365 : Int) else if (2 : Int) = 2 then 360 else 0) = 0 by decide), decide_eq_false (show ¬ n' < n by omega)]
    simp only [span_Days.j0, Bool.false_eq_true, if_false]
    simp only [if_true]
    rw [thirty_eq y m d y' m' d' g1 f1 g2 f2 (by omega) (by omega)]
    rfl
theorem days_no (k : Nat) (hk : 20210 ≤ k) (b n n' : Int) (h : ¬ ((b = 1 ∨ b = 2) ∧ (0 ≤ n ∧ n ≤ 3652058) ∧ (0 ≤ n' ∧ n' ≤ 3652058) ∧ n ≤ n')) : span_Days.f k b n n' = some (0, some 1) := by
  unfold span_Days.f
  by_cases c1 : 0 ≤ n ∧ n ≤ 3652058
  · obtain ⟨y, m, d, e, hd⟩ := civil_ok n c1 k (by omega)
    rw [e]
    by_cases c2 : 0 ≤ n' ∧ n' ≤ 3652058
    · obtain ⟨y', m', d', e', hd'⟩ := civil_ok n' c2 k (by omega)
      rw [e', year_eq]
      simp only [Option.bind_some, Option.isNone_none, if_true]
      by_cases c3 : b = 1 ∨ b = 2
      · have : ¬ (if b = 1 then (365 : Int) else if b = 2 then 360 else 0) = 0 := by
          rcases c3 with rfl | rfl <;> decide
        rw [if_neg this, decide_eq_true (by omega)]
        exact days_j0 k (by omega) _ _ _ _ _ _ _ _ _
      · rw [if_pos (by rw [if_neg (by omega), if_neg (by omega)])]
        exact days_j0 k (by omega) _ _ _ _ _ _ _ _ _
    · rw [civil_no n' c2]
      simp only [Option.bind_some, Option.isNone_none, if_true, Option.isNone_some, Bool.false_eq_true, if_false]
      exact days_j0 k (by omega) _ _ _ _ _ _ _ _ _
  · rw [civil_no n c1]
    by_cases c2 : 0 ≤ n' ∧ n' ≤ 3652058
    · obtain ⟨y', m', d', e', hd'⟩ := civil_ok n' c2 k (by omega)
      rw [e']
      simp only [Option.bind_some, Option.isNone_some, Bool.false_eq_true, if_false]
      exact days_j0 k (by omega) _ _ _ _ _ _ _ _ _
    · rw [civil_no n' c2]
      simp only [Option.bind_some, Option.isNone_some, Bool.false_eq_true, if_false]
      exact days_j0 k (by omega) _ _ _ _ _ _ _ _ _
theorem awake_yes (k : Nat) (hk : 20310 ≤ k) : arrearslaw06_awake.f k = some true := by
  have hr : realDate 2023 2 28 := by decide
  have hr' : realDate 2023 3 1 := by decide
  have h := dayNo_isDate hr
  have h' : IsDate (dayNo 2023 2 28 + 1) 2023 3 1 := by
    have e : dayNo 2023 2 28 + 1 = dayNo 2023 3 1 := by decide
    rw [e]; exact dayNo_isDate hr'
  have hg := h.range
  unfold arrearslaw06_awake.f
  rw [show (⟨#[50, 48, 50, 51, 45, 48, 50, 45, 50, 56]⟩ : ByteArray) = ⟨(textOf 2023 2 28).toArray⟩ by decide +kernel, read_text k (by omega) 2023 2 28 hr]
  simp only [Option.bind_some, Option.isNone_none, if_true]
  have w : wrap32 (dayNo 2023 2 28 + 1) = dayNo 2023 2 28 + 1 := by unfold wrap32; omega
  rw [w, days_ok k (by omega) 2 _ _ (.inr rfl) h h' (by omega)]
  simp only [Option.bind_some, Option.isNone_none, if_true]
  rw [if_pos (by decide), year_1]
  rfl


theorem refleap_eq (y : Int) (h1 : 1 ≤ y) (h2 : y ≤ 9999) : arrearsref05_Leap.f y = some (isLeap y) := by
  unfold arrearsref05_Leap.f isLeap
  rw [if_neg (by omega), if_neg (by omega), tmod0 (by omega), tmod0 (by omega), tmod0 (by omega)]
  by_cases c : y % 4 > 0
  · rw [if_pos c, decide_eq_false (by omega)]
  · rw [if_neg c]
    by_cases c1 : y % 100 > 0
    · rw [if_pos c1, decide_eq_true ⟨by omega, .inl (by omega)⟩]
    · rw [if_neg c1]
      refine congrArg some ?_
      rw [Bool.eq_iff_iff]
      simp
      omega
theorem reflength_eq (k : Nat) (hk : 1 ≤ k) (y m : Int) (hy : 1 ≤ y ∧ y ≤ 9999) (hm : 1 ≤ m ∧ m ≤ 12) : arrearsref05_Length.f k y m = some (mlen y m) := by
  obtain ⟨k, rfl⟩ : ∃ j, k = j + 1 := ⟨k - 1, by omega⟩
  unfold arrearsref05_Length.f
  rw [if_neg (by omega), if_neg (by omega), if_neg (by omega), decide_eq_false (by omega)]
  simp only [arrearsref05_Length.j0, Bool.false_eq_true, if_false, Option.bind_some]
  rw [w64_ (m - 1) (by omega) (by omega), if_pos (by omega), if_pos (by simp; omega), refleap_eq y hy.1 hy.2]
  simp only [Option.bind_some]
  have : m = 1 ∨ m = 2 ∨ m = 3 ∨ m = 4 ∨ m = 5 ∨ m = 6 ∨ m = 7 ∨ m = 8 ∨ m = 9 ∨ m = 10 ∨ m = 11 ∨ m = 12 := by omega
  rcases this with rfl | rfl | rfl | rfl | rfl | rfl | rfl | rfl | rfl | rfl | rfl | rfl
  case inr.inl =>
    rw [if_pos rfl]
    unfold mlen lp
    cases isLeap y <;> decide +kernel
  all_goals rfl
theorem reflength_no (k : Nat) (hk : 1 ≤ k) (y m : Int) (h : ¬ ((1 ≤ y ∧ y ≤ 9999) ∧ (1 ≤ m ∧ m ≤ 12))) : arrearsref05_Length.f k y m = some 0 := by
  obtain ⟨k, rfl⟩ : ∃ j, k = j + 1 := ⟨k - 1, by omega⟩
  have e : arrearsref05_Length.j0 (k + 1) y m true = some 0 := by simp only [arrearsref05_Length.j0, if_true]
  unfold arrearsref05_Length.f
  by_cases c1 : y < 1
  · rw [if_pos c1, e]
  rw [if_neg c1]
  by_cases c2 : y > 9999
  · rw [if_pos c2, e]
  rw [if_neg c2]
  by_cases c3 : m < 1
  · rw [if_pos c3, e]
  rw [if_neg c3, decide_eq_true (by omega), e]

theorem refcivil_l1 (n y : Int) (hn : 0 ≤ n ∧ n ≤ 3652058) (hy : 1 ≤ y ∧ y ≤ 9999) (hb : dby y ≤ n) (he : n < dby (y + 1)) :
    ∀ (j k : Nat) (m : Int), 13 - m = j → j + 4 < k → 1 ≤ m ∧ m ≤ 12 → cum y m ≤ n - dby y →
      ∃ m' d', arrearsref05_Civil.l1 k (n - dby y - cum y m) y m = some (y, m', d') ∧ IsDate n y m' d' := by
  intro j
  induction j with
  | zero => intro k m hm _ hm2; omega
  | succ j ih =>
    intro k m hm hk hm2 hc
    obtain ⟨k, rfl⟩ : ∃ i, k = i + 1 := ⟨k - 1, by omega⟩
    have hbd := mlen_bd y m
    have hcs := cum_succ y m hm2.1 hm2.2
    have hcb := cum_bd y m hm2.1 (by omega)
    have hdb := dby_bd y hy.1 (by omega)
    simp only [arrearsref05_Civil.l1]
    rw [reflength_eq k (by omega) y m hy hm2]
    simp only [Option.bind_some]
    by_cases c : n - dby y - cum y m ≥ mlen y m
    · rw [if_pos c]
      have hm3 : m < 12 := by
        by_cases h : m < 12
        · exact h
        · obtain rfl : m = 12 := by omega
          rw [show (12 : Int) + 1 = 13 by omega, cum_end] at hcs
          have := dby_succ y hy.1
          omega
      rw [w64_ (m + 1) (by omega) (by omega), w64_ _ (by omega) (by omega)]
      rw [show n - dby y - cum y m - mlen y m = n - dby y - cum y (m + 1) by omega]
      exact ih k (m + 1) (by omega) (by omega) (by omega) (by omega)
    · rw [if_neg c, w64_ _ (by omega) (by omega)]
      exact ⟨m, _, rfl, dates_exist n hn.1 hn.2 hy hb he hm2 hc (by omega)⟩
theorem refcivil_end (n y : Int) (k : Nat) (hk : 20 ≤ k) (hn : 0 ≤ n ∧ n ≤ 3652058) (hy : 1 ≤ y ∧ y ≤ 9999) (hb : dby y ≤ n) (he : n < dby (y + 1)) :
    ∃ m' d', arrearsref05_Civil.j1 k (n - dby y) y = some (y, m', d') ∧ IsDate n y m' d' := by
  obtain ⟨k, rfl⟩ : ∃ i, k = i + 1 := ⟨k - 1, by omega⟩
  simp only [arrearsref05_Civil.j1]
  have := refcivil_l1 n y hn hy hb he 12 k 1 (by omega) (by omega) (by omega) (by rw [cum_one]; omega)
  rw [cum_one, Int.sub_zero] at this
  exact this
theorem refcivil_l0 (n : Int) (hn : 0 ≤ n ∧ n ≤ 3652058) : ∀ (j k : Nat) (y : Int), 9999 - y = j → j + 30 < k → 1 ≤ y → dby y ≤ n →
    ∃ y' m' d', arrearsref05_Civil.l0 k (n - dby y) y = some (y', m', d') ∧ IsDate n y' m' d' := by
  intro j
  induction j with
  | zero =>
    intro k y hy hk h1 hb
    obtain ⟨k, rfl⟩ : ∃ i, k = i + 1 := ⟨k - 1, by omega⟩
    obtain rfl : y = 9999 := by omega
    have ht := dby_top
    have hs := dby_succ 9999 (by omega)
    have hlp : lp 9999 = 0 := by decide
    have hl9 : isLeap 9999 = false := by decide
    simp only [arrearsref05_Civil.l0]
    rw [refleap_eq 9999 (by omega) (by omega), hl9]
    simp only [Option.bind_some, Bool.false_eq_true, if_false]
    rw [show (9999 : Int) + 1 = 10000 by omega] at hs
    rw [if_pos (by omega)]
    obtain ⟨m', d', e, hd⟩ := refcivil_end n 9999 k (by omega) hn (by omega) hb (by rw [show (9999 : Int) + 1 = 10000 by omega]; omega)
    exact ⟨_, m', d', e, hd⟩
  | succ j ih =>
    intro k y hy hk h1 hb
    obtain ⟨k, rfl⟩ : ∃ i, k = i + 1 := ⟨k - 1, by omega⟩
    have hs := dby_succ y h1
    have hdb := dby_bd y h1 (by omega)
    simp only [arrearsref05_Civil.l0]
    rw [refleap_eq y h1 (by omega)]
    simp only [Option.bind_some]
    by_cases c : n < dby (y + 1)
    · obtain ⟨m', d', e, hd⟩ := refcivil_end n y k (by omega) hn (by omega) hb c
      refine ⟨y, m', d', ?_, hd⟩
      unfold lp at hs
      cases hl : isLeap y with
      | true => rw [hl] at hs; simp only [if_true] at hs ⊢; rw [if_pos (by omega)]; exact e
      | false => rw [hl] at hs; simp only [Bool.false_eq_true, if_false] at hs ⊢; rw [if_pos (by omega)]; exact e
    · have := ih k (y + 1) (by omega) (by omega) (by omega) (by omega)
      unfold lp at hs
      cases hl : isLeap y with
      | true =>
        rw [hl] at hs; simp only [if_true] at hs ⊢
        rw [if_neg (by omega), w64_ (y + 1) (by omega) (by omega), w64_ _ (by omega) (by omega), show n - dby y - 366 = n - dby (y + 1) by omega]; exact this
      | false =>
        rw [hl] at hs; simp only [Bool.false_eq_true, if_false] at hs ⊢
        rw [if_neg (by omega), w64_ (y + 1) (by omega) (by omega), w64_ _ (by omega) (by omega), show n - dby y - 365 = n - dby (y + 1) by omega]; exact this
theorem refcivil_ok (n : Int) (hn : 0 ≤ n ∧ n ≤ 3652058) (k : Nat) (hk : 10100 ≤ k) {y m d : Int} (h : IsDate n y m d) : arrearsref05_Civil.f k n = some (y, m, d) := by
  have e0 : dby (1 + 400 * (n / 146097)) = 146097 * (n / 146097) := by unfold dby; omega
  obtain ⟨y', m', d', e, hd⟩ := refcivil_l0 n hn (9999 - (1 + 400 * (n / 146097))).toNat k (1 + 400 * (n / 146097)) (by omega) (by omega) (by omega) (by omega)
  obtain ⟨rfl, rfl, rfl⟩ := h.unique hd
  unfold arrearsref05_Civil.f
  rw [tmod0 hn.1, tdiv0 hn.1, w64_ (n / 146097) (by omega) (by omega), w64_ (400 * (n / 146097)) (by omega) (by omega), w64_ _ (by omega) (by omega), show n % 146097 = n - dby (1 + 400 * (n / 146097)) by omega]
  exact e

theorem rright_eq (n : Int) : arrearslaw06_right.f n = some (decide (0 ≤ n ∧ n ≤ 3652058)) := by
  unfold arrearslaw06_right.f
  by_cases c : n ≥ 0
  · rw [if_pos c]
    exact congrArg some (decide_eq_decide.2 (by omega))
  · rw [if_neg c, decide_eq_false (by omega)]
theorem counts_no (k : Nat) (hk : 1 ≤ k) (b n n' : Int) : arrearslaw06_SpanCounts.j0 k b n n' 0 (some 1) true = some true := by
  obtain ⟨k, rfl⟩ : ∃ j, k = j + 1 := ⟨k - 1, by omega⟩
  simp only [arrearslaw06_SpanCounts.j0, if_true, api_Code.f, Option.getD_some, Option.bind_some]
  rfl
theorem th_nonneg {n y m d n' y' m' d' : Int} (h : IsDate n y m d) (h' : IsDate n' y' m' d') (hle : n ≤ n') : 0 ≤ th y m d y' m' d' := by
  have g2 := h.hm; have g3 := h.hd; have g4 := mlen_bd y m
  have f2 := h'.hm; have f3 := h'.hd; have f4 := mlen_bd y' m'
  have hl := (h'.later h)
  have hnot : ¬ (y' < y ∨ y' = y ∧ (m' < m ∨ m' = m ∧ d' < d)) := fun q => by have := hl.1 q; omega
  unfold th
  (repeat' split) <;> omega
theorem refdays_eq (k : Nat) (hk : 10100 ≤ k) (b n n' : Int) (hb : b = 1 ∨ b = 2) {y m d y' m' d' : Int} (h : IsDate n y m d) (h' : IsDate n' y' m' d') : arrearsref06_Days.f k (b == 2) n n' = some (if b = 2 then th y m d y' m' d' else n' - n) := by
  have r1 := h.range; have r2 := h'.range
  have g1 := h.hy; have g2 := h.hm; have g3 := h.hd; have g4 := mlen_bd y m
  have f1 := h'.hy; have f2 := h'.hm; have f3 := h'.hd; have f4 := mlen_bd y' m'
  unfold arrearsref06_Days.f
  rcases hb with rfl | rfl
  · rw [if_neg (by decide), if_neg (by omega), w64_ _ (by omega) (by omega)]
  · rw [if_pos (by decide), if_pos rfl, refcivil_ok n r1 k hk h, refcivil_ok n' r2 k hk h']
    simp only [Option.bind_some, if_true]
    rw [w64_ (y' - y) (by omega) (by omega), w64_ (m' - m) (by omega) (by omega), w64_ (360 * (y' - y)) (by omega) (by omega), w64_ (30 * (m' - m)) (by omega) (by omega), w64_ (360 * (y' - y) + 30 * (m' - m)) (by omega) (by omega)]
    unfold th
    by_cases c1 : d = 31
    · rw [if_pos c1, if_pos (show 30 ≤ d by omega), if_neg (show ¬ d ≤ 30 by omega)]
      by_cases c2 : d' = 31
      · rw [if_pos c2, if_neg (by omega), w64_ (_ + 30) (by omega) (by omega), w64_ _ (by omega) (by omega)]
      · rw [if_neg c2, if_pos (by omega), w64_ (_ + d') (by omega) (by omega), w64_ _ (by omega) (by omega)]
    · rw [if_neg c1, if_pos (show d ≤ 30 by omega)]
      by_cases c2 : d' = 31
      · rw [if_pos c2]
        by_cases c3 : d = 30
        · rw [if_pos c3, if_pos (show 30 ≤ d by omega), if_neg (show ¬ d' ≤ 30 by omega), w64_ (_ + 30) (by omega) (by omega), w64_ _ (by omega) (by omega)]
        · rw [if_neg c3, if_neg (show ¬ 30 ≤ d by omega), w64_ (_ + d') (by omega) (by omega), w64_ _ (by omega) (by omega)]
      · rw [if_neg c2, if_pos (show d' ≤ 30 by omega)]
        have : (if 30 ≤ d then d' else d') = d' := by split <;> rfl
        rw [this, w64_ (_ + d') (by omega) (by omega), w64_ _ (by omega) (by omega)]
theorem counts_yes (b n n' : Int) (hb : b = 1 ∨ b = 2) (hn : 0 ≤ n ∧ n ≤ 3652058) (hn' : 0 ≤ n' ∧ n' ≤ 3652058) (hle : n ≤ n') (v : Int) (e : Option Int) (hv : span_Days.f 20320 b n n' = some (v, e)) : arrearslaw06_SpanCounts.j0 20320 b n n' v e false = some true := by
  obtain ⟨y, m, d, e1, h⟩ := civil_ok n hn 20310 (by omega)
  obtain ⟨y', m', d', e2, h'⟩ := civil_ok n' hn' 20310 (by omega)
  rw [days_ok 20320 (by omega) b n n' hb h h' hle] at hv
  simp only [Option.some.injEq, Prod.mk.injEq] at hv
  obtain ⟨rfl, rfl⟩ := hv
  simp only [arrearslaw06_SpanCounts.j0, Bool.false_eq_true, if_false, Option.isNone_none, if_true]
  rw [w64_ n (by omega) (by omega), w64_ n' (by omega) (by omega), refdays_eq 20319 (by omega) b n n' hb h h']
  simp only [Option.bind_some, if_true]
  have : (if b = 2 then th y m d y' m' d' else n' - n) ≥ 0 := by
    split
    · exact th_nonneg h h' hle
    · omega
  rw [decide_eq_true this]
theorem pure_proved : arrearslaw06_SpanCounts.Pure := by
  intro b n n' hb hn hn'
  refine ⟨20320, ?_⟩
  unfold arrearslaw06_SpanCounts.f
  rw [awake_yes _ (by omega), rright_eq, rright_eq]
  simp only [Option.bind_some, if_true]
  by_cases hall : (b = 1 ∨ b = 2) ∧ (0 ≤ n ∧ n ≤ 3652058) ∧ (0 ≤ n' ∧ n' ≤ 3652058) ∧ n ≤ n'
  · obtain ⟨h1, h2, h3, h4⟩ := hall
    cases hd : span_Days.f 20320 b n n' with
    | none =>
      obtain ⟨y, m, d, e1, h⟩ := civil_ok n h2 20310 (by omega)
      obtain ⟨y', m', d', e2, h'⟩ := civil_ok n' h3 20310 (by omega)
      rw [days_ok 20320 (by omega) b n n' h1 h h' h4] at hd
      cases hd
    | some x =>
      obtain ⟨v, e⟩ := x
      have hy := counts_yes b n n' h1 h2 h3 h4 v e hd
      simp only [Option.bind_some]
      rw [decide_eq_true h2, decide_eq_true h3, decide_eq_false (by omega)]
      simp only [if_true]
      rw [hy]
      rcases h1 with rfl | rfl
      · rw [if_pos rfl]
      · rw [if_neg (by omega), if_pos rfl]
  · rw [days_no 20320 (by omega) b n n' hall]
    simp only [Option.bind_some]
    have h0 := counts_no 20320 (by omega) b n n'
    by_cases c1 : 0 ≤ n ∧ n ≤ 3652058
    · rw [decide_eq_true c1]
      simp only [if_true]
      by_cases c2 : 0 ≤ n' ∧ n' ≤ 3652058
      · rw [decide_eq_true c2]
        simp only [if_true]
        by_cases c3 : b = 1
        · rw [if_pos c3, decide_eq_true (by omega)]; exact h0
        · rw [if_neg c3]
          by_cases c4 : b = 2
          · rw [if_pos c4, decide_eq_true (by omega)]; exact h0
          · rw [if_neg c4]; exact h0
      · rw [decide_eq_false c2]
        simp only [Bool.false_eq_true, if_false, h0, ite_self]
    · rw [decide_eq_false c1]
      simp only [Bool.false_eq_true, if_false, h0, ite_self]

end Go.Proofs.YtdkdjikfhclmaaaDoor.PSpanCounts
