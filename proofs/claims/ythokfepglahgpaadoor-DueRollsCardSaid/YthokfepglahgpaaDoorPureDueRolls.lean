/- The pure statement behind the law DueRolls, over numbers and lists alone. Conditions: those that the printed statement names (each number is of its kind). -/
import Derived.Test.YthokfepglahgpaaDoorDDueRolls
import Derived.Test.YthokfepglahgpaaDoorMcal
import Derived.Test.YthokfepglahgpaaDoorMtxt
set_option linter.unusedVariables false
set_option linter.unusedSimpArgs false
namespace Go.Proofs.YthokfepglahgpaaDoor.PDueRolls
open Go.RowKit Go.Proofs.YthokfepglahgpaaDoorW.PrintWords Go.Proofs.YthokfepglahgpaaDoorW.PrintLast Go.Proofs.YthokfepglahgpaaDoorW.PrintMore Go.Proofs.YthokfepglahgpaaDoor.M

theorem w64_ (x : Int) (h0 : -1000000000000000 ≤ x) (h1 : x ≤ 1000000000000000) : wrap64 x = x := by unfold wrap64; omega
theorem leap_eq (y : Int) (h1 : 1 ≤ y) (h2 : y ≤ 9999) : date_Leap.f y = some (isLeap y) := by
  unfold date_Leap.f isLeap
  rw [if_pos (by omega), if_pos (by omega), tmod0 (by omega), tmod0 (by omega), tmod0 (by omega)]
  by_cases c : y % 4 = 0
  · rw [if_pos c]
    by_cases c1 : y % 100 = 0
    · rw [if_pos c1]
      refine congrArg some ?_
      rw [Bool.eq_iff_iff]
      simp
      omega
    · rw [if_neg c1, decide_eq_true ⟨c, .inl c1⟩]
  · rw [if_neg c, decide_eq_false (by omega)]
theorem length_eq (k : Nat) (hk : 2 ≤ k) (y m : Int) (hy : 1 ≤ y ∧ y ≤ 9999) (hm : 1 ≤ m ∧ m ≤ 12) : date_Length.f k y m = some (mlen y m) := by
  obtain ⟨k, rfl⟩ : ∃ j, k = j + 2 := ⟨k - 2, by omega⟩
  unfold date_Length.f mlen
  rw [if_neg (by omega), if_neg (by omega), if_neg (by omega), decide_eq_false (by omega)]
  simp only [date_Length.j0, date_Length.j1, Bool.false_eq_true, if_false]
  have hl := leap_eq y hy.1 hy.2
  by_cases c4 : m = 4
  · subst c4; rfl
  rw [if_neg c4]
  by_cases c6 : m = 6
  · subst c6; rfl
  rw [if_neg c6]
  by_cases c9 : m = 9
  · subst c9; rfl
  rw [if_neg c9]
  by_cases c11 : m = 11
  · subst c11; rfl
  rw [beq_eq_false_iff_ne.2 c11]
  simp only [Bool.false_eq_true, if_false]
  have hne : ¬ (m = 4 ∨ m = 6 ∨ m = 9 ∨ m = 11) := by omega
  rw [if_neg hne]
  by_cases c2 : m = 2
  · rw [if_pos c2, if_pos c2, hl]
    simp only [Option.bind_some]
    unfold lp
    cases isLeap y <;> rfl
  · rw [if_neg c2, if_neg c2]
theorem length_no (k : Nat) (hk : 1 ≤ k) (y m : Int) (h : ¬ ((1 ≤ y ∧ y ≤ 9999) ∧ (1 ≤ m ∧ m ≤ 12))) : date_Length.f k y m = some 0 := by
  obtain ⟨k, rfl⟩ : ∃ j, k = j + 1 := ⟨k - 1, by omega⟩
  have e : date_Length.j0 (k + 1) y m true = some 0 := by simp only [date_Length.j0, if_true]
  unfold date_Length.f
  by_cases c1 : y < 1
  · rw [if_pos c1, e]
  rw [if_neg c1]
  by_cases c2 : y > 9999
  · rw [if_pos c2, e]
  rw [if_neg c2]
  by_cases c3 : m < 1
  · rw [if_pos c3, e]
  rw [if_neg c3, decide_eq_true (by omega), e]
/-- Is there such a date? -/
def realDate (y m d : Int) : Prop := (1 ≤ y ∧ y ≤ 9999) ∧ (1 ≤ m ∧ m ≤ 12) ∧ (1 ≤ d ∧ d ≤ mlen y m)
instance (y m d : Int) : Decidable (realDate y m d) := by unfold realDate; infer_instance
theorem right_yes (k : Nat) (hk : 2 ≤ k) (y m d : Int) (h : realDate y m d) : date_Civil_Right.f k y m d = some true := by
  obtain ⟨hy, hm, hd⟩ := h
  unfold date_Civil_Right.f
  rw [if_pos (by omega), length_eq k hk y m hy hm]
  simp only [Option.bind_some]
  rw [decide_eq_true hd.2]
theorem right_no (k : Nat) (hk : 2 ≤ k) (y m d : Int) (h : ¬ realDate y m d) : date_Civil_Right.f k y m d = some false := by
  unfold date_Civil_Right.f
  by_cases c : d ≥ 1
  · rw [if_pos c]
    by_cases c2 : (1 ≤ y ∧ y ≤ 9999) ∧ (1 ≤ m ∧ m ≤ 12)
    · rw [length_eq k hk y m c2.1 c2.2]
      simp only [Option.bind_some]
      rw [decide_eq_false (fun h2 => h ⟨c2.1, c2.2, c, h2⟩)]
    · rw [length_no k (by omega) y m c2]
      simp only [Option.bind_some]
      rw [decide_eq_false (by omega)]
  · rw [if_neg c]
theorem right_eq (k : Nat) (hk : 2 ≤ k) (y m d : Int) : date_Civil_Right.f k y m d = some (decide (realDate y m d)) := by
  by_cases h : realDate y m d
  · rw [right_yes k hk y m d h, decide_eq_true h]
  · rw [right_no k hk y m d h, decide_eq_false h]


theorem begins_eq (y : Int) (h1 : 1 ≤ y) (h2 : y ≤ 10002) : date_begins.f y = some (dby y) := by
  unfold date_begins.f dby
  rw [w64_ (y - 1) (by omega) (by omega), tdiv0 (by omega), tdiv0 (by omega), tdiv0 (by omega), w64_ ((y - 1) * 365) (by omega) (by omega), w64_ ((y - 1) / 4) (by omega) (by omega), w64_ ((y - 1) / 100) (by omega) (by omega), w64_ ((y - 1) / 400) (by omega) (by omega),
    w64_ ((y - 1) * 365 + (y - 1) / 4) (by omega) (by omega), w64_ ((y - 1) * 365 + (y - 1) / 4 - (y - 1) / 100) (by omega) (by omega), w64_ _ (by omega) (by omega)]
  refine congrArg some ?_
  omega

theorem civil_l2 (n y : Int) (hn : 0 ≤ n ∧ n ≤ 3652058) (hy : 1 ≤ y ∧ y ≤ 9999) (hb : dby y ≤ n) (he : n < dby (y + 1)) :
    ∀ (j k : Nat) (m : Int), 13 - m = j → j + 4 < k → 1 ≤ m ∧ m ≤ 12 → cum y m ≤ n - dby y →
      ∃ m' d', date_Day_Civil.l2 k y (mlen y m) y m (n - dby y - cum y m + 1) = some (y, m', d', none) ∧ IsDate n y m' d' := by
  intro j
  induction j with
  | zero => intro k m hm _ hm2; omega
  | succ j ih =>
    intro k m hm hk hm2 hc
    obtain ⟨k, rfl⟩ : ∃ i, k = i + 1 := ⟨k - 1, by omega⟩
    have hbd := mlen_bd y m
    have hcs := cum_succ y m hm2.1 hm2.2
    have hcb := cum_bd y m hm2.1 (by omega)
    simp only [date_Day_Civil.l2]
    by_cases c : n - dby y - cum y m + 1 > mlen y m
    · rw [if_pos c]
      have hm3 : m < 12 := by
        by_cases h : m < 12
        · exact h
        · obtain rfl : m = 12 := by omega
          rw [show (12 : Int) + 1 = 13 by omega, cum_end] at hcs
          have := dby_succ y hy.1
          omega
      have hdb := dby_bd y hy.1 (by omega)
      rw [w64_ (m + 1) (by omega) (by omega), w64_ _ (by omega) (by omega), length_eq k (by omega) y (m + 1) hy (by omega)]
      simp only [Option.bind_some]
      rw [show n - dby y - cum y m + 1 - mlen y m = n - dby y - cum y (m + 1) + 1 by omega]
      exact ih k (m + 1) (by omega) (by omega) (by omega) (by omega)
    · rw [if_neg c]
      exact ⟨m, _, rfl, dates_exist n hn.1 hn.2 hy hb he hm2 hc (by omega)⟩
theorem civil_l1 (n : Int) (hn : 0 ≤ n ∧ n ≤ 3652058) : ∀ (j k : Nat) (y : Int), 9999 - y = j → j + 30 < k → 1 ≤ y → dby y ≤ n →
    ∃ y' m' d', date_Day_Civil.l1 k n y = some (y', m', d', none) ∧ IsDate n y' m' d' := by
  intro j
  induction j with
  | zero =>
    intro k y hy hk h1 hb
    obtain ⟨k, rfl⟩ : ∃ i, k = i + 1 := ⟨k - 1, by omega⟩
    obtain rfl : y = 9999 := by omega
    have ht := dby_top
    simp only [date_Day_Civil.l1]
    rw [w64_ (9999 + 1) (by omega) (by omega), w64_ n (by omega) (by omega), begins_eq (9999 + 1) (by omega) (by omega), begins_eq 9999 (by omega) (by omega), length_eq k (by omega) 9999 1 (by omega) (by omega)]
    simp only [Option.bind_some]
    rw [if_neg (by rw [show (9999 : Int) + 1 = 10000 by omega]; omega)]
    have hdb := dby_bd 9999 (by omega) (by omega)
    rw [w64_ (n - dby 9999) (by omega) (by omega), w64_ (n - dby 9999 + 1) (by omega) (by omega)]
    obtain ⟨m', d', e, hd⟩ := civil_l2 n 9999 hn (by omega) hb (by rw [show (9999 : Int) + 1 = 10000 by omega]; omega) 12 k 1 (by omega) (by omega) (by omega) (by rw [cum_one]; omega)
    rw [cum_one, show n - dby 9999 - 0 + 1 = n - dby 9999 + 1 by omega] at e
    exact ⟨_, m', d', e, hd⟩
  | succ j ih =>
    intro k y hy hk h1 hb
    obtain ⟨k, rfl⟩ : ∃ i, k = i + 1 := ⟨k - 1, by omega⟩
    simp only [date_Day_Civil.l1]
    rw [w64_ (y + 1) (by omega) (by omega), w64_ n (by omega) (by omega), begins_eq (y + 1) (by omega) (by omega), begins_eq y (by omega) (by omega), length_eq k (by omega) y 1 (by omega) (by omega)]
    simp only [Option.bind_some]
    by_cases c : dby (y + 1) ≤ n
    · rw [if_pos c]
      exact ih k (y + 1) (by omega) (by omega) (by omega) c
    · rw [if_neg c]
      have hdb := dby_bd y (by omega) (by omega)
      rw [w64_ (n - dby y) (by omega) (by omega), w64_ (n - dby y + 1) (by omega) (by omega)]
      obtain ⟨m', d', e, hd⟩ := civil_l2 n y hn (by omega) hb (by omega) 12 k 1 (by omega) (by omega) (by omega) (by rw [cum_one]; omega)
      rw [cum_one, show n - dby y - 0 + 1 = n - dby y + 1 by omega] at e
      exact ⟨_, m', d', e, hd⟩
theorem civil_l0 (n : Int) (hn : 0 ≤ n ∧ n ≤ 3652058) : ∀ (j k : Nat) (y : Int), y - 1 = j → y ≤ 10000 → 10100 + j < k →
    ∃ y' m' d', date_Day_Civil.l0 k n y = some (y', m', d', none) ∧ IsDate n y' m' d' := by
  intro j
  induction j with
  | zero =>
    intro k y hy hy2 hk
    obtain ⟨k, rfl⟩ : ∃ i, k = i + 1 := ⟨k - 1, by omega⟩
    obtain rfl : y = 1 := by omega
    have e1 : dby 1 = 0 := by decide
    simp only [date_Day_Civil.l0]
    rw [w64_ n (by omega) (by omega), begins_eq 1 (by omega) (by omega)]
    simp only [Option.bind_some]
    rw [if_neg (by omega)]
    exact civil_l1 n hn 9998 k 1 (by omega) (by omega) (by omega) (by omega)
  | succ j ih =>
    intro k y hy hy2 hk
    obtain ⟨k, rfl⟩ : ∃ i, k = i + 1 := ⟨k - 1, by omega⟩
    simp only [date_Day_Civil.l0]
    rw [w64_ n (by omega) (by omega), begins_eq y (by omega) (by omega)]
    simp only [Option.bind_some]
    by_cases c : dby y > n
    · rw [if_pos c, w64_ (y - 1) (by omega) (by omega)]
      exact ih k (y - 1) (by omega) (by omega) (by omega)
    · rw [if_neg c]
      have hy3 : y ≤ 9999 := by
        by_cases h : 9999 < y
        · have := dby_mono (a := 10000) (b := y) (by omega) (by omega)
          rw [dby_top] at this
          omega
        · omega
      exact civil_l1 n hn (9999 - y).toNat k y (by omega) (by omega) (by omega) (by omega)
theorem civil_ok (n : Int) (hn : 0 ≤ n ∧ n ≤ 3652058) (k : Nat) (hk : 20200 ≤ k) : ∃ y m d, date_Day_Civil.f k n = some (y, m, d, none) ∧ IsDate n y m d := by
  unfold date_Day_Civil.f date_Day_Right.f
  rw [if_pos (by omega), decide_eq_true hn.2]
  simp only [Option.bind_some, if_true]
  rw [w64_ n (by omega) (by omega), w64_ (n * 400) (by omega) (by omega), tdiv0 (by omega), w64_ (n * 400 / 146097) (by omega) (by omega), w64_ _ (by omega) (by omega)]
  exact civil_l0 n hn (n * 400 / 146097 + 1 - 1).toNat k _ (by omega) (by omega) (by omega)
theorem civil_no (n : Int) (h : ¬ (0 ≤ n ∧ n ≤ 3652058)) (k : Nat) : date_Day_Civil.f k n = some (0, 0, 0, some 1) := by
  unfold date_Day_Civil.f date_Day_Right.f
  by_cases c : n ≥ 0
  · rw [if_pos c, decide_eq_false (by omega)]
    rfl
  · rw [if_neg c]
    rfl
theorem real_of {n y m d : Int} (h : IsDate n y m d) : realDate y m d := ⟨h.hy, h.hm, h.hd⟩

theorem itoa_eq {n : Int} (h0 : 0 ≤ n) (h1 : n ≤ 9999) : strconv_Itoa.f n = some ⟨(Go.Lib.itoa n).toArray⟩ := by
  unfold strconv_Itoa.f
  rw [if_pos (by omega)]
theorem pad_step (k : Nat) (size : Int) (l : List UInt8) (h : (l.length : Int) < size) (hl : l.length ≤ 10) : date_pad.l0 (k + 1) size ⟨l.toArray⟩ = date_pad.l0 k size ⟨(48 :: l).toArray⟩ := by
  simp only [date_pad.l0]
  rw [mk_size, if_pos h, if_pos (by omega), show (⟨#[48]⟩ : ByteArray) = ⟨[48].toArray⟩ from rfl, mk_append]; rfl
theorem pad_done (k : Nat) (size : Int) (l : List UInt8) (h : ¬ (l.length : Int) < size) : date_pad.l0 (k + 1) size ⟨l.toArray⟩ = some ⟨l.toArray⟩ := by
  simp only [date_pad.l0]
  rw [mk_size, if_neg h]
theorem pad_two {n : Int} (h0 : 0 ≤ n) (h1 : n ≤ 99) (k : Nat) (hk : 2 ≤ k) : date_pad.f k n 2 = some ⟨(twoD n).toArray⟩ := by
  obtain ⟨k, rfl⟩ : ∃ j, k = j + 2 := ⟨k - 2, by omega⟩
  unfold date_pad.f
  rw [itoa_eq h0 (by omega)]
  simp only [Option.bind_some]
  by_cases c : n < 10
  · rw [itoa_1 h0 c, pad_step _ _ _ (by simp) (by simp), pad_done _ _ _ (by simp)]
    unfold twoD
    rw [show n / 10 = 0 by omega, show n % 10 = n by omega]; rfl
  · rw [itoa_2 (by omega) (by omega), pad_done _ _ _ (by simp [two_length])]
theorem pad_four {n : Int} (h0 : 0 ≤ n) (h1 : n ≤ 9999) (k : Nat) (hk : 4 ≤ k) : date_pad.f k n 4 = some ⟨(fourD n).toArray⟩ := by
  obtain ⟨k, rfl⟩ : ∃ j, k = j + 4 := ⟨k - 4, by omega⟩
  unfold date_pad.f
  rw [itoa_eq h0 (by omega)]
  simp only [Option.bind_some]
  by_cases c : n < 10
  · rw [itoa_1 h0 c, pad_step _ _ _ (by simp) (by simp), pad_step _ _ _ (by simp) (by simp), pad_step _ _ _ (by simp) (by simp), pad_done _ _ _ (by simp)]
    unfold fourD
    rw [show n / 1000 = 0 by omega, show n / 100 % 10 = 0 by omega, show n / 10 % 10 = 0 by omega, show n % 10 = n by omega]; rfl
  by_cases c2 : n < 100
  · rw [itoa_2 (by omega) c2, pad_step _ _ _ (by simp [two_length]) (by simp [two_length]), pad_step _ _ _ (by simp [two_length]) (by simp [two_length]), pad_done _ _ _ (by simp [two_length])]
    unfold fourD twoD
    rw [show n / 1000 = 0 by omega, show n / 100 % 10 = 0 by omega, show n / 10 % 10 = n / 10 by omega]; rfl
  by_cases c3 : n < 1000
  · rw [itoa_3 (by omega) c3, pad_step _ _ _ (by simp) (by simp), pad_done _ _ _ (by simp)]
    unfold fourD
    rw [show n / 1000 = 0 by omega, show n / 100 % 10 = n / 100 by omega]; rfl
  · rw [itoa_4 (by omega) (by omega), pad_done _ _ _ (by simp [four_length])]
theorem text_ok (k : Nat) (hk : 20200 ≤ k) (n y m d : Int) (h : IsDate n y m d) : date_Day_Text.f k n = some ⟨(textOf y m d).toArray⟩ := by
  obtain ⟨y', m', d', e, hd⟩ := civil_ok n h.range k hk
  obtain ⟨rfl, rfl, rfl⟩ := h.unique hd
  have h1 := h.hy; have h2 := h.hm; have h3 := h.hd; have h4 := mlen_bd y m
  unfold date_Day_Text.f
  rw [e]
  simp only [Option.bind_some, Option.isNone_none, if_true]
  rw [pad_four (by omega) (by omega) k (by omega), pad_two (n := m) (by omega) (by omega) k (by omega), pad_two (n := d) (by omega) (by omega) k (by omega)]
  simp only [Option.bind_some]
  rw [show (⟨#[45]⟩ : ByteArray) = ⟨[45].toArray⟩ from rfl]
  simp only [mk_append, mk_size, List.length_append, two_length, four_length, List.length_cons, List.length_nil]
  rw [if_pos (by decide), if_pos (by decide), if_pos (by decide), if_pos (by decide)]
  unfold textOf
  simp
theorem text_no (k : Nat) (n : Int) (h : ¬ (0 ≤ n ∧ n ≤ 3652058)) : date_Day_Text.f k n = some ⟨#[]⟩ := by
  unfold date_Day_Text.f
  rw [civil_no n h k]
  rfl



/-- The day's number of a date. -/
def dayNo (y m d : Int) : Int := dby y + cum y m + d - 1
theorem dayNo_isDate {y m d : Int} (h : realDate y m d) : IsDate (dayNo y m d) y m d := ⟨h.1, h.2.1, h.2.2, rfl⟩
theorem number_l0 (y m d : Int) (h : realDate y m d) : ∀ (j k : Nat) (i : Int), m - i = j → j + 3 < k → 1 ≤ i →
    date_Civil_Number.l0 k (dby y + d - 1 + cum y i) i y m d = some (dayNo y m d, none) := by
  obtain ⟨hy, hm, hd⟩ := h
  have hb := dby_bd y hy.1 (by omega)
  have hl := mlen_bd y m
  intro j
  induction j with
  | zero =>
    intro k i hi hk h1
    obtain ⟨k, rfl⟩ : ∃ q, k = q + 1 := ⟨k - 1, by omega⟩
    obtain rfl : i = m := by omega
    have hc := cum_bd y i h1 (by omega)
    simp only [date_Civil_Number.l0]
    rw [if_neg (by omega)]
    have : wrap32 (dby y + d - 1 + cum y i) = dayNo y i d := by unfold wrap32 dayNo; omega
    rw [this]
  | succ j ih =>
    intro k i hi hk h1
    obtain ⟨k, rfl⟩ : ∃ q, k = q + 1 := ⟨k - 1, by omega⟩
    have hc := cum_bd y i h1 (by omega)
    have hcs := cum_succ y i h1 (by omega)
    have hl2 := mlen_bd y i
    simp only [date_Civil_Number.l0]
    rw [if_pos (by omega), length_eq k (by omega) y i hy (by omega)]
    simp only [Option.bind_some]
    rw [w64_ (i + 1) (by omega) (by omega), w64_ _ (by omega) (by omega), show dby y + d - 1 + cum y i + mlen y i = dby y + d - 1 + cum y (i + 1) by omega]
    exact ih k (i + 1) (by omega) (by omega) (by omega)
theorem number_ok (k : Nat) (hk : 20 ≤ k) (y m d : Int) (h : realDate y m d) : date_Civil_Number.f k y m d = some (dayNo y m d, none) := by
  have hy := h.1; have hm := h.2.1; have hd := h.2.2
  have hb := dby_bd y hy.1 (by omega)
  have hl := mlen_bd y m
  unfold date_Civil_Number.f
  rw [right_yes k (by omega) y m d h, begins_eq y hy.1 (by omega)]
  simp only [Option.bind_some, if_true]
  rw [w64_ (dby y + d) (by omega) (by omega), w64_ (dby y + d - 1) (by omega) (by omega)]
  have := number_l0 y m d h (m - 1).toNat k 1 (by omega) (by omega) (by omega)
  rw [cum_one, Int.add_zero] at this
  exact this
theorem number_no (k : Nat) (hk : 2 ≤ k) (y m d : Int) (h : ¬ realDate y m d) : date_Civil_Number.f k y m d = some (0, some 1) := by
  unfold date_Civil_Number.f
  rw [right_no k hk y m d h]
  rfl

theorem atoiV_ok {l : List UInt8} {v : Int} (h : Go.Lib.atoiAll l = .ok v) : atoiV l = v := by unfold atoiV; rw [h]
theorem read_text (k : Nat) (hk : 20300 ≤ k) (y m d : Int) (h : realDate y m d) : date_Read.f k ⟨(textOf y m d).toArray⟩ = some (dayNo y m d, none) := by
  have hy := h.1; have hm := h.2.1; have hd := h.2.2; have hl := mlen_bd y m
  unfold date_Read.f
  rw [if_pos (by rw [mk_size]; rfl), ex04, ex57, ex810, atoiV_ok (atoi_four (n := y) (by omega) (by omega)), atoiV_ok (atoi_two (n := m) (by omega) (by omega)), atoiV_ok (atoi_two (n := d) (by omega) (by omega)), number_ok k (by omega) y m d h]
  simp only [Option.bind_some, Option.isNone_none, if_true]
  rw [text_ok k (by omega) (dayNo y m d) y m d (dayNo_isDate h)]
  simp
theorem read_other (k : Nat) (hk : 20300 ≤ k) (s : ByteArray) (h : ∀ y m d, realDate y m d → s.data.toList ≠ textOf y m d) : date_Read.f k s = some (0, some 15) := by
  unfold date_Read.f
  by_cases hs : s.size = 10
  · rw [if_pos hs]
    generalize atoiV (s.extract 0 4).data.toList = y
    generalize atoiV (s.extract 5 7).data.toList = m
    generalize atoiV (s.extract 8 10).data.toList = d
    by_cases hr : realDate y m d
    · rw [number_ok k (by omega) y m d hr]
      simp only [Option.bind_some, Option.isNone_none, if_true]
      rw [text_ok k (by omega) (dayNo y m d) y m d (dayNo_isDate hr)]
      simp only [Option.bind_some, toList_data]
      have : ((textOf y m d).toArray.toList == s.data.toList) = false := by
        rw [beq_eq_false_iff_ne]
        intro e
        exact h y m d hr (by rw [← e])
      rw [this]
      rfl
    · rw [number_no k (by omega) y m d hr]
      rfl
  · rw [if_neg hs]


/-- So many months on, of a date that there is. -/
theorem months_ok (k : Nat) (hk : 4 ≤ k) (y m d n : Int) (h : realDate y m d) (hn : -119988 ≤ n ∧ n ≤ 119988) (h0 : 0 ≤ (y - 1) * 12 + m - 1 + n) (h1 : (y - 1) * 12 + m - 1 + n < 119988) :
    date_Civil_Months.f k y m d n = some (((y - 1) * 12 + m - 1 + n) / 12 + 1, ((y - 1) * 12 + m - 1 + n) % 12 + 1, mn d (mlen (((y - 1) * 12 + m - 1 + n) / 12 + 1) (((y - 1) * 12 + m - 1 + n) % 12 + 1)), none) := by
  have hr := h
  obtain ⟨hy, hm, hd⟩ := h
  obtain ⟨k, rfl⟩ : ∃ j, k = j + 1 := ⟨k - 1, by omega⟩
  unfold date_Civil_Months.f
  rw [right_yes _ (by omega) y m d hr]
  simp only [Option.bind_some, if_true]
  rw [if_neg (by omega), decide_eq_false (by omega)]
  simp only [date_Civil_Months.j0, Bool.false_eq_true, if_false]
  rw [w64_ (y - 1) (by omega) (by omega), w64_ ((y - 1) * 12) (by omega) (by omega), w64_ ((y - 1) * 12 + m) (by omega) (by omega), w64_ ((y - 1) * 12 + m - 1) (by omega) (by omega), w64_ ((y - 1) * 12 + m - 1 + n) (by omega) (by omega)]
  generalize (y - 1) * 12 + m - 1 + n = t at *
  rw [if_neg (by omega), if_neg (by omega), tdiv0 h0, tmod0 h0, w64_ (t / 12) (by omega) (by omega), w64_ (t / 12 + 1) (by omega) (by omega), w64_ (t % 12 + 1) (by omega) (by omega), length_eq k (by omega) _ _ (by omega) (by omega)]
  rfl
theorem months_over (k : Nat) (hk : 4 ≤ k) (y m d n : Int) (h : realDate y m d) (hb : -9223372036854775808 ≤ n ∧ n ≤ 9223372036854775807) (hn : ¬ ((-119988 ≤ n ∧ n ≤ 119988) ∧ (0 ≤ (y - 1) * 12 + m - 1 + n ∧ (y - 1) * 12 + m - 1 + n < 119988))) :
    date_Civil_Months.f k y m d n = some (0, 0, 0, some 12) := by
  have hr := h
  obtain ⟨hy, hm, hd⟩ := h
  obtain ⟨k, rfl⟩ : ∃ j, k = j + 1 := ⟨k - 1, by omega⟩
  unfold date_Civil_Months.f
  rw [right_yes _ (by omega) y m d hr]
  simp only [Option.bind_some, if_true]
  by_cases c1 : n < -119988
  · rw [if_pos c1]; simp only [date_Civil_Months.j0, if_true]
  rw [if_neg c1]
  by_cases c2 : n > 119988
  · rw [decide_eq_true c2]; simp only [date_Civil_Months.j0, if_true]
  rw [decide_eq_false c2]
  simp only [date_Civil_Months.j0, Bool.false_eq_true, if_false]
  rw [w64_ (y - 1) (by omega) (by omega), w64_ ((y - 1) * 12) (by omega) (by omega), w64_ ((y - 1) * 12 + m) (by omega) (by omega), w64_ ((y - 1) * 12 + m - 1) (by omega) (by omega), w64_ ((y - 1) * 12 + m - 1 + n) (by omega) (by omega)]
  by_cases c3 : (y - 1) * 12 + m - 1 + n < 0
  · rw [if_pos c3]
  rw [if_neg c3, if_pos (by omega)]
theorem months_arg (k : Nat) (hk : 4 ≤ k) (y m d n : Int) (h : ¬ realDate y m d) : date_Civil_Months.f k y m d n = some (0, 0, 0, some 1) := by
  unfold date_Civil_Months.f
  rw [right_no _ (by omega) y m d h]
  rfl


theorem last_eq (k : Nat) (hk : 2 ≤ k) (y m d : Int) (h : realDate y m d) : date_Civil_Last.f k y m d = some (d == mlen y m) := by
  unfold date_Civil_Last.f
  rw [right_yes k hk y m d h, length_eq k hk y m h.1 h.2.1]
  rfl
theorem last_no (k : Nat) (hk : 2 ≤ k) (y m d : Int) (h : ¬ realDate y m d) : date_Civil_Last.f k y m d = some false := by
  unfold date_Civil_Last.f
  rw [right_no k hk y m d h]
  rfl

theorem mn_eq (a b : Int) : mn a b = if a ≤ b then a else b := by unfold mn; (repeat' split) <;> omega
/-- Months, told from year 1. -/
def mno (y m kk : Int) : Int := (y - 1) * 12 + m - 1 + kk
def dueY (y m kk : Int) : Int := mno y m kk / 12 + 1
def dueM (y m kk : Int) : Int := mno y m kk % 12 + 1
def dueD (y m d kk : Int) : Int := if d = mlen y m then mlen (dueY y m kk) (dueM y m kk) else if d ≤ mlen (dueY y m kk) (dueM y m kk) then d else mlen (dueY y m kk) (dueM y m kk)
def dueP (y m d kk : Int) : Int × Option Int := if mno y m kk < 119988 then (dayNo (dueY y m kk) (dueM y m kk) (dueD y m d kk), none) else (0, some 12)
theorem due_real {y m d kk : Int} (h : realDate y m d) (h0 : 0 ≤ kk) (ht : mno y m kk < 119988) : realDate (dueY y m kk) (dueM y m kk) (dueD y m d kk) := by
  have h1 := h.1; have h2 := h.2.1; have h3 := h.2.2
  have hb := mlen_bd (dueY y m kk) (dueM y m kk)
  have ey : 1 ≤ dueY y m kk ∧ dueY y m kk ≤ 9999 := by unfold dueY; unfold mno at *; omega
  have em : 1 ≤ dueM y m kk ∧ dueM y m kk ≤ 12 := by unfold dueM; unfold mno at *; omega
  refine ⟨ey, em, ?_⟩
  unfold dueD
  (repeat' split) <;> omega
theorem plain_arg (k : Nat) (hk : 20300 ≤ k) (n kk : Int) (h : ¬ ((0 ≤ n ∧ n ≤ 3652058) ∧ 0 ≤ kk ∧ kk ≤ 480)) : due_Plain.f k n kk = some (0, some 1) := by
  obtain ⟨k, rfl⟩ : ∃ q, k = q + 1 := ⟨k - 1, by omega⟩
  unfold due_Plain.f
  by_cases c1 : kk < 0
  · rw [if_pos c1]; simp only [due_Plain.j0, if_true]
  rw [if_neg c1]
  by_cases c2 : kk > 480
  · rw [decide_eq_true c2]; simp only [due_Plain.j0, if_true]
  rw [decide_eq_false c2]
  simp only [due_Plain.j0, Bool.false_eq_true, if_false]
  rw [civil_no n (fun q => h ⟨q, by omega⟩)]
  rfl
theorem plain_ok (k : Nat) (hk : 20300 ≤ k) (n kk : Int) (h0 : 0 ≤ kk ∧ kk ≤ 480) {y m d : Int} (h : IsDate n y m d) : due_Plain.f k n kk = some (dueP y m d kk) := by
  have r := h.range
  have hr := real_of h
  have h1 := hr.1; have h2 := hr.2.1; have h3 := hr.2.2
  obtain ⟨k, rfl⟩ : ∃ q, k = q + 1 := ⟨k - 1, by omega⟩
  obtain ⟨y1, m1, d1, e, hd⟩ := civil_ok n r k (by omega)
  obtain ⟨rfl, rfl, rfl⟩ := h.unique hd
  unfold due_Plain.f dueP
  rw [if_neg (by omega), decide_eq_false (by omega)]
  simp only [due_Plain.j0, Bool.false_eq_true, if_false]
  rw [e]
  simp only [Option.bind_some, Option.isNone_none, if_true]
  rw [last_eq k (by omega) y m d hr]
  simp only [Option.bind_some]
  by_cases ht : mno y m kk < 119988
  · rw [if_pos ht]
    have hreal := due_real hr h0.1 ht
    have hlast : realDate (dueY y m kk) (dueM y m kk) (mlen (dueY y m kk) (dueM y m kk)) := ⟨hreal.1, hreal.2.1, by have := mlen_bd (dueY y m kk) (dueM y m kk); omega⟩
    have em : date_Civil_Months.f k y m d kk = some (dueY y m kk, dueM y m kk, mn d (mlen (dueY y m kk) (dueM y m kk)), none) := months_ok k (by omega) y m d kk hr (by omega) (by omega) (by unfold mno at ht; omega)
    rw [em]
    simp only [Option.bind_some, Option.isNone_none, if_true]
    by_cases c : d = mlen y m
    · rw [if_pos (beq_iff_eq.2 c), length_eq k (by omega) _ _ hreal.1 hreal.2.1]
      simp only [Option.bind_some]
      rw [number_ok k (by omega) _ _ _ hlast]
      simp only [Option.bind_some]
      unfold dueD
      rw [if_pos c]
    · rw [if_neg (by rw [beq_iff_eq]; exact c)]
      have e2 : mn d (mlen (dueY y m kk) (dueM y m kk)) = dueD y m d kk := by unfold dueD; rw [if_neg c, mn_eq]
      rw [e2, number_ok k (by omega) _ _ _ hreal]
      rfl
  · rw [if_neg ht, months_over k (by omega) y m d kk hr (by omega) (by unfold mno at ht; omega)]
    rfl
theorem due_last {y m d kk : Int} (hr : realDate y m d) : dueD y m d kk = mlen (dueY y m kk) (dueM y m kk) ∨ (d ≠ mlen y m ∧ dueD y m d kk = d ∧ d ≤ mlen (dueY y m kk) (dueM y m kk)) := by
  unfold dueD
  by_cases c : d = mlen y m
  · exact .inl (by rw [if_pos c])
  · rw [if_neg c]
    by_cases c2 : d ≤ mlen (dueY y m kk) (dueM y m kk)
    · exact .inr ⟨c, by rw [if_pos c2], c2⟩
    · exact .inl (by rw [if_neg c2])
theorem awake_yes (k : Nat) (hk : 20310 ≤ k) : arrearslaw07_awake.f k = some true := by
  have hr : realDate 2023 2 28 := by decide
  have h := dayNo_isDate hr
  unfold arrearslaw07_awake.f
  rw [show (⟨#[50, 48, 50, 51, 45, 48, 50, 45, 50, 56]⟩ : ByteArray) = ⟨(textOf 2023 2 28).toArray⟩ by decide +kernel, read_text k (by omega) 2023 2 28 hr]
  simp only [Option.bind_some, Option.isNone_none, if_true]
  rw [plain_ok k (by omega) _ 1 (by omega) h]
  have e : dueP 2023 2 28 1 = (dayNo 2023 3 31, none) := by decide
  rw [e]
  simp only [Option.bind_some, Option.isNone_none, if_true]
  have hr3 : realDate 2023 3 31 := by decide
  rw [text_ok k (by omega) _ 2023 3 31 (dayNo_isDate hr3)]
  simp only [Option.bind_some, ByteArray.toList_mk]
  decide

theorem few_l0 (l : List Int) (hl : l.length ≤ 35184372088088) (hb : ∀ x ∈ l, -2147483648 ≤ x ∧ x ≤ 2147483647) : ∀ (r k i : Nat), l.length - i = r → i ≤ l.length → r < k →
    arrearslaw07_few.l0 k ((l.take 60).take i) ((l.take 60).take i) l (l.length : Int) (i : Int) = some (l.take 60, l.take 60) := by
  intro r
  induction r with
  | zero =>
    intro k i hr hi hk
    obtain ⟨k, rfl⟩ : ∃ q, k = q + 1 := ⟨k - 1, by omega⟩
    obtain rfl : i = l.length := by omega
    simp only [arrearslaw07_few.l0]
    rw [if_neg (by omega), List.take_of_length_le (by rw [List.length_take]; omega)]
  | succ r ih =>
    intro k i hr hi hk
    obtain ⟨k, rfl⟩ : ∃ q, k = q + 1 := ⟨k - 1, by omega⟩
    have hlt : i < l.length := by omega
    have e := ih k (i + 1) (by omega) (by omega) (by omega)
    rw [show ((i + 1 : Nat) : Int) = (i : Int) + 1 by omega] at e
    simp only [arrearslaw07_few.l0]
    rw [if_pos (by omega), if_pos (by omega), if_pos (by omega), w64_ ((i : Int) + 1) (by omega) (by omega)]
    have hrd : rd l (i : Int) = l[i] := by simp [rd, List.getD_eq_getElem?_getD, List.getElem?_eq_getElem hlt]
    have hv := hb _ (List.getElem_mem hlt)
    by_cases c : i < 60
    · have hsize : ((l.take 60).take i).length = i := by rw [List.length_take, List.length_take]; omega
      rw [if_pos (by omega), hsize, if_pos (by omega), if_pos (by omega), hrd, w64_ _ (by omega) (by omega)]
      have ht : (l.take 60).take (i + 1) = (l.take 60).take i ++ [l[i]] := by
        rw [List.take_succ_eq_append_getElem (by rw [List.length_take]; omega)]
        congr 2
        exact List.getElem_take
      rw [ht] at e
      exact e
    · rw [if_neg (by omega)]
      have h1 : (l.take 60).take (i + 1) = l.take 60 := List.take_of_length_le (by rw [List.length_take]; omega)
      have h2 : (l.take 60).take i = l.take 60 := List.take_of_length_le (by rw [List.length_take]; omega)
      have ht : (l.take 60).take (i + 1) = (l.take 60).take i := by rw [h1, h2]
      rw [ht] at e
      exact e
theorem few_eq (l : List Int) (hl : l.length * 4 ≤ 140737488351232) (hb : ∀ x ∈ l, -2147483648 ≤ x ∧ x ≤ 2147483647) (k : Nat) (hk : l.length < k) : arrearslaw07_few.f k l = some (l.take 60, l.take 60) := by
  unfold arrearslaw07_few.f
  have e := few_l0 l (by omega) hb l.length k 0 (by omega) (by omega) hk
  exact e
theorem dright_eq (n : Int) : date_Day_Right.f n = some (decide (0 ≤ n ∧ n ≤ 3652058)) := by
  unfold date_Day_Right.f
  by_cases c : n ≥ 0
  · rw [if_pos c]
    exact congrArg some (decide_eq_decide.2 (by omega))
  · rw [if_neg c, decide_eq_false (by omega)]

theorem index_l0 (h : List Int) (v : Int) (hh : h.length ≤ 1000) : ∀ (r k i : Nat), h.length - i = r → i ≤ h.length → r < k → ∃ x : Int, date_Day_41.l0 k h v (h.length : Int) (i : Int) = some x ∧ (0 ≤ x ↔ v ∈ h.drop i) := by
  intro r
  induction r with
  | zero =>
    intro k i hr hi hk
    obtain ⟨k, rfl⟩ : ∃ q, k = q + 1 := ⟨k - 1, by omega⟩
    refine ⟨-1, ?_, ?_⟩
    · simp only [date_Day_41.l0]; rw [if_neg (by omega)]
    · rw [List.drop_of_length_le (by omega)]; simp
  | succ r ih =>
    intro k i hr hi hk
    obtain ⟨k, rfl⟩ : ∃ q, k = q + 1 := ⟨k - 1, by omega⟩
    have hlt : i < h.length := by omega
    have hrd : rd h (i : Int) = h[i] := by simp [rd, List.getD_eq_getElem?_getD, List.getElem?_eq_getElem hlt]
    simp only [date_Day_41.l0]
    rw [if_pos (by omega), if_pos (by omega), if_pos (by omega), hrd, List.drop_eq_getElem_cons hlt]
    by_cases c : v = h[i]
    · rw [if_pos c]
      exact ⟨_, rfl, fun _ => by rw [c]; exact List.mem_cons_self, fun _ => by omega⟩
    · rw [if_neg c, w64_ ((i : Int) + 1) (by omega) (by omega)]
      obtain ⟨x, e, hx⟩ := ih k (i + 1) (by omega) (by omega) (by omega)
      rw [show ((i + 1 : Nat) : Int) = (i : Int) + 1 by omega] at e
      exact ⟨x, e, hx.trans ⟨fun q => List.mem_cons_of_mem _ q, fun q => (List.mem_cons.1 q).resolve_left c⟩⟩
theorem contains_eq (h : List Int) (v : Int) (hh : h.length ≤ 1000) (k : Nat) (hk : h.length < k) : date_Day_32.f k h v = some (decide (v ∈ h)) := by
  obtain ⟨x, e, hx⟩ := index_l0 h v hh h.length k 0 (by omega) (by omega) hk
  unfold date_Day_32.f date_Day_41.f
  rw [show ((0 : Nat) : Int) = 0 from rfl] at e
  rw [e]
  simp only [Option.bind_some]
  rw [List.drop_zero] at hx
  exact congrArg some (decide_eq_decide.2 hx)
/-- Is something done on a day? -/
def isOpen (h : List Int) (n : Int) : Bool := decide (n % 7 < 5) && !decide (n ∈ h)
theorem open_eq (h : List Int) (n : Int) (hh : h.length ≤ 1000) (k : Nat) (hk : h.length < k) : due_Holy_Open.f k h n = some (decide (0 ≤ n ∧ n ≤ 3652058) && isOpen h n) := by
  unfold due_Holy_Open.f isOpen
  rw [dright_eq]
  simp only [Option.bind_some]
  by_cases c : 0 ≤ n ∧ n ≤ 3652058
  · rw [decide_eq_true c]
    simp only [if_true]
    unfold date_Day_Week.f
    rw [dright_eq, decide_eq_true c]
    simp only [Option.bind_some, if_true]
    rw [w64_ n (by omega) (by omega), tmod0 c.1]
    by_cases c2 : n % 7 < 5
    · rw [if_pos c2, contains_eq h n hh k hk, decide_eq_true c2]
      simp
    · rw [if_neg c2, decide_eq_false c2]
      simp
  · rw [decide_eq_false c]
    simp
/-- The first open day from one on. -/
def FirstOpen (h : List Int) (d n : Int) : Prop := d ≤ n ∧ n ≤ 3652058 ∧ isOpen h n = true ∧ ∀ x, d ≤ x → x < n → isOpen h x = false
def NoneOpen (h : List Int) (d : Int) : Prop := ∀ x, d ≤ x → x ≤ 3652058 → isOpen h x = false
theorem first_or_none (h : List Int) : ∀ (r : Nat) (d : Int), 3652059 - d = r → (∃ n, FirstOpen h d n) ∨ NoneOpen h d := by
  intro r
  induction r with
  | zero => intro d hd; exact .inr fun x h1 h2 => by omega
  | succ r ih =>
    intro d hd
    cases c : isOpen h d with
    | true => exact .inl ⟨d, by omega, by omega, c, fun x h1 h2 => by omega⟩
    | false =>
      rcases ih (d + 1) (by omega) with ⟨n, h1, h2, h3, h4⟩ | hn
      · refine .inl ⟨n, by omega, h2, h3, fun x q1 q2 => ?_⟩
        by_cases e : x = d
        · rw [e]; exact c
        · exact h4 x (by omega) q2
      · refine .inr fun x q1 q2 => ?_
        by_cases e : x = d
        · rw [e]; exact c
        · exact hn x (by omega) q2
theorem next_first (h : List Int) (hh : h.length ≤ 1000) (n : Int) : ∀ (r k : Nat) (d : Int), n - d = r → r + h.length + 1 < k → 0 ≤ d → FirstOpen h d n → due_Holy_Next.l0 k h d = some (n, none) := by
  intro r
  induction r with
  | zero =>
    intro k d hd hk h0 hf
    obtain ⟨k, rfl⟩ : ∃ q, k = q + 1 := ⟨k - 1, by omega⟩
    obtain rfl : d = n := by omega
    simp only [due_Holy_Next.l0]
    rw [dright_eq, decide_eq_true ⟨h0, hf.2.1⟩]
    simp only [Option.bind_some, if_true]
    rw [open_eq h d hh k (by omega), decide_eq_true ⟨h0, hf.2.1⟩, hf.2.2.1]
    rfl
  | succ r ih =>
    intro k d hd hk h0 hf
    obtain ⟨k, rfl⟩ : ∃ q, k = q + 1 := ⟨k - 1, by omega⟩
    have hr : 0 ≤ d ∧ d ≤ 3652058 := ⟨h0, by have := hf.2.1; omega⟩
    simp only [due_Holy_Next.l0]
    rw [dright_eq, decide_eq_true hr]
    simp only [Option.bind_some, if_true]
    rw [open_eq h d hh k (by omega), decide_eq_true hr, hf.2.2.2 d (by omega) (by omega)]
    simp only [Option.bind_some, Bool.and_false, Bool.false_eq_true, if_false]
    have w : wrap32 (d + 1) = d + 1 := by unfold wrap32; omega
    rw [w]
    exact ih k (d + 1) (by omega) (by omega) (by omega) ⟨by omega, hf.2.1, hf.2.2.1, fun x q1 q2 => hf.2.2.2 x (by omega) q2⟩
theorem next_none (h : List Int) (hh : h.length ≤ 1000) : ∀ (r k : Nat) (d : Int), 3652059 - d = r → r + h.length + 1 < k → 0 ≤ d → NoneOpen h d → due_Holy_Next.l0 k h d = some (0, some 12) := by
  intro r
  induction r with
  | zero =>
    intro k d hd hk h0 hf
    obtain ⟨k, rfl⟩ : ∃ q, k = q + 1 := ⟨k - 1, by omega⟩
    simp only [due_Holy_Next.l0]
    rw [dright_eq, decide_eq_false (by omega)]
    simp
  | succ r ih =>
    intro k d hd hk h0 hf
    obtain ⟨k, rfl⟩ : ∃ q, k = q + 1 := ⟨k - 1, by omega⟩
    have hr : 0 ≤ d ∧ d ≤ 3652058 := ⟨h0, by omega⟩
    simp only [due_Holy_Next.l0]
    rw [dright_eq, decide_eq_true hr]
    simp only [Option.bind_some, if_true]
    rw [open_eq h d hh k (by omega), decide_eq_true hr, hf d (by omega) (by omega)]
    simp only [Option.bind_some, Bool.and_false, Bool.false_eq_true, if_false]
    have w : wrap32 (d + 1) = d + 1 := by unfold wrap32; omega
    rw [w]
    exact ih k (d + 1) (by omega) (by omega) (by omega) fun x q1 q2 => hf x (by omega) q2
theorem next_arg (h : List Int) (k : Nat) (d : Int) (hd : ¬ (0 ≤ d ∧ d ≤ 3652058)) : due_Holy_Next.f k h d = some (0, some 1) := by
  unfold due_Holy_Next.f
  rw [dright_eq, decide_eq_false hd]
  rfl
theorem next_in (h : List Int) (k : Nat) (d : Int) (hd : 0 ≤ d ∧ d ≤ 3652058) : due_Holy_Next.f k h d = due_Holy_Next.l0 k h d := by
  unfold due_Holy_Next.f
  rw [dright_eq, decide_eq_true hd]
  rfl

theorem refopen_l0 (h : List Int) (v : Int) (hh : h.length ≤ 1000) (hv : 0 ≤ v) : ∀ (r k i : Nat), h.length - i = r → i ≤ h.length → r < k → arrearsref07_Open.l0 k v h (h.length : Int) (i : Int) = some (decide (v % 7 < 5) && !decide (v ∈ h.drop i)) := by
  intro r
  induction r with
  | zero =>
    intro k i hr hi hk
    obtain ⟨k, rfl⟩ : ∃ q, k = q + 1 := ⟨k - 1, by omega⟩
    simp only [arrearsref07_Open.l0]
    rw [if_neg (by omega), List.drop_of_length_le (by omega), tmod0 hv]
    simp
  | succ r ih =>
    intro k i hr hi hk
    obtain ⟨k, rfl⟩ : ∃ q, k = q + 1 := ⟨k - 1, by omega⟩
    have hlt : i < h.length := by omega
    have hrd : rd h (i : Int) = h[i] := by simp [rd, List.getD_eq_getElem?_getD, List.getElem?_eq_getElem hlt]
    simp only [arrearsref07_Open.l0]
    rw [if_pos (by omega), if_pos (by omega), if_pos (by omega), hrd, List.drop_eq_getElem_cons hlt]
    by_cases c : h[i] = v
    · rw [if_pos c, decide_eq_true (show v ∈ h[i] :: h.drop (i + 1) by rw [c]; exact List.mem_cons_self)]
      simp
    · rw [if_neg c, w64_ ((i : Int) + 1) (by omega) (by omega)]
      have e := ih k (i + 1) (by omega) (by omega) (by omega)
      rw [show ((i + 1 : Nat) : Int) = (i : Int) + 1 by omega] at e
      rw [e]
      have : decide (v ∈ h.drop (i + 1)) = decide (v ∈ h[i] :: h.drop (i + 1)) := decide_eq_decide.2 ⟨fun q => List.mem_cons_of_mem _ q, fun q => (List.mem_cons.1 q).resolve_left (fun z => c z.symm)⟩
      rw [this]
theorem refopen_eq (h : List Int) (v : Int) (hh : h.length ≤ 1000) (hv : 0 ≤ v) (k : Nat) (hk : h.length < k) : arrearsref07_Open.f k h v = some (isOpen h v) := by
  have e := refopen_l0 h v hh hv h.length k 0 (by omega) (by omega) hk
  rw [List.drop_zero] at e
  exact e
theorem refnext_first (h : List Int) (hh : h.length ≤ 1000) (n : Int) : ∀ (r k : Nat) (d : Int), n - d = r → r + h.length + 1 < k → 0 ≤ d → FirstOpen h d n → arrearsref07_Next.l0 k h d = some n := by
  intro r
  induction r with
  | zero =>
    intro k d hd hk h0 hf
    obtain ⟨k, rfl⟩ : ∃ q, k = q + 1 := ⟨k - 1, by omega⟩
    obtain rfl : d = n := by omega
    simp only [arrearsref07_Next.l0]
    rw [if_pos hf.2.1, refopen_eq h d hh h0 k (by omega), hf.2.2.1]
    rfl
  | succ r ih =>
    intro k d hd hk h0 hf
    obtain ⟨k, rfl⟩ : ∃ q, k = q + 1 := ⟨k - 1, by omega⟩
    have h2 := hf.2.1
    simp only [arrearsref07_Next.l0]
    rw [if_pos (by omega), refopen_eq h d hh h0 k (by omega), hf.2.2.2 d (by omega) (by omega)]
    simp only [Option.bind_some, Bool.false_eq_true, if_false]
    rw [w64_ (d + 1) (by omega) (by omega)]
    exact ih k (d + 1) (by omega) (by omega) (by omega) ⟨by omega, hf.2.1, hf.2.2.1, fun x q1 q2 => hf.2.2.2 x (by omega) q2⟩
theorem refnext_none (h : List Int) (hh : h.length ≤ 1000) : ∀ (r k : Nat) (d : Int), 3652059 - d = r → r + h.length + 1 < k → 0 ≤ d → NoneOpen h d → arrearsref07_Next.l0 k h d = some (-1) := by
  intro r
  induction r with
  | zero =>
    intro k d hd hk h0 hf
    obtain ⟨k, rfl⟩ : ∃ q, k = q + 1 := ⟨k - 1, by omega⟩
    simp only [arrearsref07_Next.l0]
    rw [if_neg (by omega)]
  | succ r ih =>
    intro k d hd hk h0 hf
    obtain ⟨k, rfl⟩ : ∃ q, k = q + 1 := ⟨k - 1, by omega⟩
    simp only [arrearsref07_Next.l0]
    rw [if_pos (by omega), refopen_eq h d hh h0 k (by omega), hf d (by omega) (by omega)]
    simp only [Option.bind_some, Bool.false_eq_true, if_false]
    rw [w64_ (d + 1) (by omega) (by omega)]
    exact ih k (d + 1) (by omega) (by omega) (by omega) fun x q1 q2 => hf x (by omega) q2


theorem refleap_eq (y : Int) (h1 : 1 ≤ y) (h2 : y ≤ 9999) : arrearsref05_Leap.f y = some (isLeap y) := by
  unfold arrearsref05_Leap.f isLeap
  rw [if_neg (by omega), if_neg (by omega), tmod0 (by omega), tmod0 (by omega), tmod0 (by omega)]
  by_cases c : y % 4 > 0
  · rw [if_pos c, decide_eq_false (by omega)]
  · rw [if_neg c]
    by_cases c1 : y % 100 > 0
    · rw [if_pos c1, decide_eq_true ⟨by omega, .inl (by omega)⟩]
    · rw [if_neg c1]
      refine congrArg some ?_
      rw [Bool.eq_iff_iff]
      simp
      omega
theorem reflength_eq (k : Nat) (hk : 1 ≤ k) (y m : Int) (hy : 1 ≤ y ∧ y ≤ 9999) (hm : 1 ≤ m ∧ m ≤ 12) : arrearsref05_Length.f k y m = some (mlen y m) := by
  obtain ⟨k, rfl⟩ : ∃ j, k = j + 1 := ⟨k - 1, by omega⟩
  unfold arrearsref05_Length.f
  rw [if_neg (by omega), if_neg (by omega), if_neg (by omega), decide_eq_false (by omega)]
  simp only [arrearsref05_Length.j0, Bool.false_eq_true, if_false, Option.bind_some]
  rw [w64_ (m - 1) (by omega) (by omega), if_pos (by omega), if_pos (by simp; omega), refleap_eq y hy.1 hy.2]
  simp only [Option.bind_some]
  have : m = 1 ∨ m = 2 ∨ m = 3 ∨ m = 4 ∨ m = 5 ∨ m = 6 ∨ m = 7 ∨ m = 8 ∨ m = 9 ∨ m = 10 ∨ m = 11 ∨ m = 12 := by omega
  rcases this with rfl | rfl | rfl | rfl | rfl | rfl | rfl | rfl | rfl | rfl | rfl | rfl
  case inr.inl =>
    rw [if_pos rfl]
    unfold mlen lp
    cases isLeap y <;> decide +kernel
  all_goals rfl
theorem reflength_no (k : Nat) (hk : 1 ≤ k) (y m : Int) (h : ¬ ((1 ≤ y ∧ y ≤ 9999) ∧ (1 ≤ m ∧ m ≤ 12))) : arrearsref05_Length.f k y m = some 0 := by
  obtain ⟨k, rfl⟩ : ∃ j, k = j + 1 := ⟨k - 1, by omega⟩
  have e : arrearsref05_Length.j0 (k + 1) y m true = some 0 := by simp only [arrearsref05_Length.j0, if_true]
  unfold arrearsref05_Length.f
  by_cases c1 : y < 1
  · rw [if_pos c1, e]
  rw [if_neg c1]
  by_cases c2 : y > 9999
  · rw [if_pos c2, e]
  rw [if_neg c2]
  by_cases c3 : m < 1
  · rw [if_pos c3, e]
  rw [if_neg c3, decide_eq_true (by omega), e]

theorem refcivil_l1 (n y : Int) (hn : 0 ≤ n ∧ n ≤ 3652058) (hy : 1 ≤ y ∧ y ≤ 9999) (hb : dby y ≤ n) (he : n < dby (y + 1)) :
    ∀ (j k : Nat) (m : Int), 13 - m = j → j + 4 < k → 1 ≤ m ∧ m ≤ 12 → cum y m ≤ n - dby y →
      ∃ m' d', arrearsref05_Civil.l1 k (n - dby y - cum y m) y m = some (y, m', d') ∧ IsDate n y m' d' := by
  intro j
  induction j with
  | zero => intro k m hm _ hm2; omega
  | succ j ih =>
    intro k m hm hk hm2 hc
    obtain ⟨k, rfl⟩ : ∃ i, k = i + 1 := ⟨k - 1, by omega⟩
    have hbd := mlen_bd y m
    have hcs := cum_succ y m hm2.1 hm2.2
    have hcb := cum_bd y m hm2.1 (by omega)
    have hdb := dby_bd y hy.1 (by omega)
    simp only [arrearsref05_Civil.l1]
    rw [reflength_eq k (by omega) y m hy hm2]
    simp only [Option.bind_some]
    by_cases c : n - dby y - cum y m ≥ mlen y m
    · rw [if_pos c]
      have hm3 : m < 12 := by
        by_cases h : m < 12
        · exact h
        · obtain rfl : m = 12 := by omega
          rw [show (12 : Int) + 1 = 13 by omega, cum_end] at hcs
          have := dby_succ y hy.1
          omega
      rw [w64_ (m + 1) (by omega) (by omega), w64_ _ (by omega) (by omega)]
      rw [show n - dby y - cum y m - mlen y m = n - dby y - cum y (m + 1) by omega]
      exact ih k (m + 1) (by omega) (by omega) (by omega) (by omega)
    · rw [if_neg c, w64_ _ (by omega) (by omega)]
      exact ⟨m, _, rfl, dates_exist n hn.1 hn.2 hy hb he hm2 hc (by omega)⟩
theorem refcivil_end (n y : Int) (k : Nat) (hk : 20 ≤ k) (hn : 0 ≤ n ∧ n ≤ 3652058) (hy : 1 ≤ y ∧ y ≤ 9999) (hb : dby y ≤ n) (he : n < dby (y + 1)) :
    ∃ m' d', arrearsref05_Civil.j1 k (n - dby y) y = some (y, m', d') ∧ IsDate n y m' d' := by
  obtain ⟨k, rfl⟩ : ∃ i, k = i + 1 := ⟨k - 1, by omega⟩
  simp only [arrearsref05_Civil.j1]
  have := refcivil_l1 n y hn hy hb he 12 k 1 (by omega) (by omega) (by omega) (by rw [cum_one]; omega)
  rw [cum_one, Int.sub_zero] at this
  exact this
theorem refcivil_l0 (n : Int) (hn : 0 ≤ n ∧ n ≤ 3652058) : ∀ (j k : Nat) (y : Int), 9999 - y = j → j + 30 < k → 1 ≤ y → dby y ≤ n →
    ∃ y' m' d', arrearsref05_Civil.l0 k (n - dby y) y = some (y', m', d') ∧ IsDate n y' m' d' := by
  intro j
  induction j with
  | zero =>
    intro k y hy hk h1 hb
    obtain ⟨k, rfl⟩ : ∃ i, k = i + 1 := ⟨k - 1, by omega⟩
    obtain rfl : y = 9999 := by omega
    have ht := dby_top
    have hs := dby_succ 9999 (by omega)
    have hlp : lp 9999 = 0 := by decide
    have hl9 : isLeap 9999 = false := by decide
    simp only [arrearsref05_Civil.l0]
    rw [refleap_eq 9999 (by omega) (by omega), hl9]
    simp only [Option.bind_some, Bool.false_eq_true, if_false]
    rw [show (9999 : Int) + 1 = 10000 by omega] at hs
    rw [if_pos (by omega)]
    obtain ⟨m', d', e, hd⟩ := refcivil_end n 9999 k (by omega) hn (by omega) hb (by rw [show (9999 : Int) + 1 = 10000 by omega]; omega)
    exact ⟨_, m', d', e, hd⟩
  | succ j ih =>
    intro k y hy hk h1 hb
    obtain ⟨k, rfl⟩ : ∃ i, k = i + 1 := ⟨k - 1, by omega⟩
    have hs := dby_succ y h1
    have hdb := dby_bd y h1 (by omega)
    simp only [arrearsref05_Civil.l0]
    rw [refleap_eq y h1 (by omega)]
    simp only [Option.bind_some]
    by_cases c : n < dby (y + 1)
    · obtain ⟨m', d', e, hd⟩ := refcivil_end n y k (by omega) hn (by omega) hb c
      refine ⟨y, m', d', ?_, hd⟩
      unfold lp at hs
      cases hl : isLeap y with
      | true => rw [hl] at hs; simp only [if_true] at hs ⊢; rw [if_pos (by omega)]; exact e
      | false => rw [hl] at hs; simp only [Bool.false_eq_true, if_false] at hs ⊢; rw [if_pos (by omega)]; exact e
    · have := ih k (y + 1) (by omega) (by omega) (by omega) (by omega)
      unfold lp at hs
      cases hl : isLeap y with
      | true =>
        rw [hl] at hs; simp only [if_true] at hs ⊢
        rw [if_neg (by omega), w64_ (y + 1) (by omega) (by omega), w64_ _ (by omega) (by omega), show n - dby y - 366 = n - dby (y + 1) by omega]; exact this
      | false =>
        rw [hl] at hs; simp only [Bool.false_eq_true, if_false] at hs ⊢
        rw [if_neg (by omega), w64_ (y + 1) (by omega) (by omega), w64_ _ (by omega) (by omega), show n - dby y - 365 = n - dby (y + 1) by omega]; exact this
theorem refcivil_ok (n : Int) (hn : 0 ≤ n ∧ n ≤ 3652058) (k : Nat) (hk : 10100 ≤ k) {y m d : Int} (h : IsDate n y m d) : arrearsref05_Civil.f k n = some (y, m, d) := by
  have e0 : dby (1 + 400 * (n / 146097)) = 146097 * (n / 146097) := by unfold dby; omega
  obtain ⟨y', m', d', e, hd⟩ := refcivil_l0 n hn (9999 - (1 + 400 * (n / 146097))).toNat k (1 + 400 * (n / 146097)) (by omega) (by omega) (by omega) (by omega)
  obtain ⟨rfl, rfl, rfl⟩ := h.unique hd
  unfold arrearsref05_Civil.f
  rw [tmod0 hn.1, tdiv0 hn.1, w64_ (n / 146097) (by omega) (by omega), w64_ (400 * (n / 146097)) (by omega) (by omega), w64_ _ (by omega) (by omega), show n % 146097 = n - dby (1 + 400 * (n / 146097)) by omega]
  exact e



theorem refnumber_l1 (y m d : Int) (h : realDate y m d) : ∀ (j k : Nat) (i : Int), m - i = j → j + 3 < k → 1 ≤ i →
    arrearsref05_Number.l1 k (dby y + cum y i) i y m d = some (dayNo y m d) := by
  obtain ⟨hy, hm, hd⟩ := h
  have hb := dby_bd y hy.1 (by omega)
  have hl := mlen_bd y m
  intro j
  induction j with
  | zero =>
    intro k i hi hk h1
    obtain ⟨k, rfl⟩ : ∃ q, k = q + 1 := ⟨k - 1, by omega⟩
    obtain rfl : i = m := by omega
    have hc := cum_bd y i h1 (by omega)
    simp only [arrearsref05_Number.l1]
    rw [if_neg (by omega), w64_ (dby y + cum y i + d) (by omega) (by omega), w64_ (dby y + cum y i + d - 1) (by omega) (by omega)]
    rfl
  | succ j ih =>
    intro k i hi hk h1
    obtain ⟨k, rfl⟩ : ∃ q, k = q + 1 := ⟨k - 1, by omega⟩
    have hc := cum_bd y i h1 (by omega)
    have hcs := cum_succ y i h1 (by omega)
    have hl2 := mlen_bd y i
    simp only [arrearsref05_Number.l1]
    rw [if_pos (by omega), reflength_eq k (by omega) y i hy (by omega)]
    simp only [Option.bind_some]
    rw [w64_ (i + 1) (by omega) (by omega), w64_ _ (by omega) (by omega), show dby y + cum y i + mlen y i = dby y + cum y (i + 1) by omega]
    exact ih k (i + 1) (by omega) (by omega) (by omega)
theorem refnumber_l0 (y m d : Int) (h : realDate y m d) : ∀ (j k : Nat) (i : Int), y - i = j → j + 30 < k → 1 ≤ i →
    arrearsref05_Number.l0 k (dby i) i y m d = some (dayNo y m d) := by
  have hy := h.1; have hm := h.2.1
  intro j
  induction j with
  | zero =>
    intro k i hi hk h1
    obtain ⟨k, rfl⟩ : ∃ q, k = q + 1 := ⟨k - 1, by omega⟩
    obtain rfl : i = y := by omega
    simp only [arrearsref05_Number.l0]
    rw [if_neg (by omega)]
    have := refnumber_l1 i m d h (m - 1).toNat k 1 (by omega) (by omega) (by omega)
    rw [cum_one, Int.add_zero] at this
    exact this
  | succ j ih =>
    intro k i hi hk h1
    obtain ⟨k, rfl⟩ : ∃ q, k = q + 1 := ⟨k - 1, by omega⟩
    have hb := dby_bd i h1 (by omega)
    have hs := dby_succ i h1
    simp only [arrearsref05_Number.l0]
    rw [if_pos (by omega), refleap_eq i h1 (by omega)]
    simp only [Option.bind_some]
    rw [w64_ (i + 1) (by omega) (by omega), w64_ (dby i + 365) (by omega) (by omega), w64_ (dby i + 365 + 1) (by omega) (by omega)]
    have hi' := ih k (i + 1) (by omega) (by omega) (by omega)
    rw [hs] at hi'
    unfold lp at hi'
    cases hl : isLeap i with
    | true => rw [hl] at hi'; simp only [if_true] at hi' ⊢; exact hi'
    | false => rw [hl] at hi'; simp only [Bool.false_eq_true, if_false, Int.add_zero] at hi' ⊢; exact hi'
theorem refnumber_ok (k : Nat) (hk : 500 ≤ k) (y m d : Int) (h : realDate y m d) : arrearsref05_Number.f k y m d = some (dayNo y m d) := by
  have hy := h.1
  unfold arrearsref05_Number.f
  rw [w64_ (y - 1) (by omega) (by omega), tdiv0 (by omega), tmod0 (by omega), w64_ ((y - 1) / 400) (by omega) (by omega), w64_ (146097 * _) (by omega) (by omega), w64_ (y - _) (by omega) (by omega)]
  have e : dby (y - (y - 1) % 400) = 146097 * ((y - 1) / 400) := by unfold dby; omega
  rw [← e]
  exact refnumber_l0 y m d h ((y - 1) % 400).toNat k _ (by omega) (by omega) (by omega)

theorem next_eq (k : Nat) (hk : 1 ≤ k) (y m : Int) (hy : 0 ≤ y ∧ y ≤ 20000) (hm : 1 ≤ m ∧ m ≤ 12) : arrearsref05_Next.f k y m false = some (if m = 12 then (y + 1, 1) else (y, m + 1)) := by
  obtain ⟨k, rfl⟩ : ∃ q, k = q + 1 := ⟨k - 1, by omega⟩
  unfold arrearsref05_Next.f
  simp only [Bool.false_eq_true, if_false, arrearsref05_Next.j0]
  rw [w64_ (y + 1) (by omega) (by omega), w64_ (m + 1) (by omega) (by omega)]
  by_cases c : m = 12
  · rw [if_pos c, if_pos c]
  · rw [if_neg c, if_neg c]
theorem refplain_j1 (k : Nat) (hk : 600 ≤ k) (y m d : Int) (b : Bool) (hr : realDate y m (if b = true then mlen y m else d)) : arrearsref07_Plain.j1 k y m d b = some (dayNo y m (if b = true then mlen y m else d), 0) := by
  obtain ⟨k, rfl⟩ : ∃ q, k = q + 1 := ⟨k - 1, by omega⟩
  cases b with
  | true =>
    simp only [if_true] at hr
    simp only [arrearsref07_Plain.j1, if_true]
    rw [reflength_eq k (by omega) y m hr.1 hr.2.1]
    simp only [Option.bind_some]
    rw [refnumber_ok k (by omega) y m _ hr]
    rfl
  | false =>
    simp only [Bool.false_eq_true, if_false] at hr
    simp only [arrearsref07_Plain.j1, Bool.false_eq_true, if_false]
    rw [refnumber_ok k (by omega) y m d hr]
    rfl
theorem refplain_l0 (y0 m0 d0 kk : Int) (hr : realDate y0 m0 d0) (hkk : 0 ≤ kk ∧ kk ≤ 480) : ∀ (r k : Nat) (i y m : Int), kk - i = r → r + 700 < k → 0 ≤ i → 1 ≤ m ∧ m ≤ 12 → (y - 1) * 12 + m - 1 = (y0 - 1) * 12 + m0 - 1 + i →
    arrearsref07_Plain.l0 k kk y m i y0 m0 d0 = some (if mno y0 m0 kk < 119988 then ((dueP y0 m0 d0 kk).1, 0) else (0, 12)) := by
  have h1 := hr.1; have h2 := hr.2.1; have h3 := hr.2.2
  intro r
  induction r with
  | zero =>
    intro k i y m hi hk h0 hm he
    obtain ⟨k, rfl⟩ : ∃ q, k = q + 1 := ⟨k - 1, by omega⟩
    have ey : y = dueY y0 m0 kk := by unfold dueY mno; omega
    have em : m = dueM y0 m0 kk := by unfold dueM mno; omega
    simp only [arrearsref07_Plain.l0]
    rw [if_neg (by omega)]
    by_cases ht : mno y0 m0 kk < 119988
    · have hreal := due_real hr hkk.1 ht
      have hb := mlen_bd (dueY y0 m0 kk) (dueM y0 m0 kk)
      rw [if_neg (show ¬ y > 9999 by have := hreal.1; omega), if_pos ht, reflength_eq k (by omega) y0 m0 h1 h2]
      simp only [Option.bind_some]
      unfold dueP
      rw [if_pos ht]
      subst ey em
      by_cases c : mlen y0 m0 = d0
      · rw [if_pos c]
        have e : dueD y0 m0 d0 kk = mlen (dueY y0 m0 kk) (dueM y0 m0 kk) := by unfold dueD; rw [if_pos c.symm]
        rw [e] at hreal ⊢
        exact refplain_j1 k (by omega) _ _ _ true hreal
      · rw [if_neg c, reflength_eq k (by omega) _ _ hreal.1 hreal.2.1]
        simp only [Option.bind_some]
        have e : dueD y0 m0 d0 kk = (if decide (d0 > mlen (dueY y0 m0 kk) (dueM y0 m0 kk)) = true then mlen (dueY y0 m0 kk) (dueM y0 m0 kk) else d0) := by
          unfold dueD
          rw [if_neg (fun q => c q.symm)]
          by_cases q : d0 ≤ mlen (dueY y0 m0 kk) (dueM y0 m0 kk)
          · rw [if_pos q, decide_eq_false (by omega)]; rfl
          · rw [if_neg q, decide_eq_true (by omega)]; rfl
        rw [e] at hreal ⊢
        exact refplain_j1 k (by omega) _ _ _ _ hreal
    · rw [if_pos (show y > 9999 by unfold mno at ht; omega), if_neg ht]
  | succ r ih =>
    intro k i y m hi hk h0 hm he
    obtain ⟨k, rfl⟩ : ∃ q, k = q + 1 := ⟨k - 1, by omega⟩
    simp only [arrearsref07_Plain.l0]
    rw [if_pos (by omega), next_eq k (by omega) y m (by omega) hm]
    simp only [Option.bind_some]
    rw [w64_ (i + 1) (by omega) (by omega)]
    by_cases c : m = 12
    · rw [if_pos c]
      exact ih k (i + 1) (y + 1) 1 (by omega) (by omega) (by omega) (by omega) (by omega)
    · rw [if_neg c]
      exact ih k (i + 1) y (m + 1) (by omega) (by omega) (by omega) (by omega) (by omega)
theorem refplain_eq (k : Nat) (hk : 11000 ≤ k) (n kk : Int) (hkk : 0 ≤ kk ∧ kk ≤ 480) {y m d : Int} (h : IsDate n y m d) : arrearsref07_Plain.f k n kk = some (if mno y m kk < 119988 then ((dueP y m d kk).1, 0) else (0, 12)) := by
  unfold arrearsref07_Plain.f
  rw [refcivil_ok n h.range k (by omega) h]
  simp only [Option.bind_some]
  exact refplain_l0 y m d kk (real_of h) hkk kk.toNat k 0 y m (by omega) (by omega) (by omega) (real_of h).2.1 (by omega)
theorem rolls_no (k : Nat) (hk : 1 ≤ k) (n kk : Int) (h : List Int) : arrearslaw07_DueRolls.j0 k n kk h 0 (some 1) 0 (some 1) true = some true := by
  obtain ⟨k, rfl⟩ : ∃ q, k = q + 1 := ⟨k - 1, by omega⟩
  simp only [arrearslaw07_DueRolls.j0, if_true, api_Code.f, Option.getD_some, Option.bind_some]
  rfl
theorem rolls_yes (k : Nat) (hk : 3790000 ≤ k) (n kk : Int) (h : List Int) (hh : h.length ≤ 1000) (hkk : 0 ≤ kk ∧ kk ≤ 480) {y m d : Int} (hd : IsDate n y m d) (v : Int) (e : Option Int) (he : due_Rolled.f (k + 1) h n kk = some (v, e)) :
    arrearslaw07_DueRolls.j0 (k + 1) n kk h (dueP y m d kk).1 (dueP y m d kk).2 v e false = some true := by
  have rn := hd.range
  simp only [arrearslaw07_DueRolls.j0, Bool.false_eq_true, if_false]
  rw [w64_ n (by omega) (by omega), refplain_eq k (by omega) n kk hkk hd]
  unfold due_Rolled.f at he
  rw [plain_ok (k + 1) (by omega) n kk hkk hd] at he
  simp only [Option.bind_some] at he ⊢
  unfold dueP at he ⊢
  by_cases ht : mno y m kk < 119988
  · rw [if_pos ht] at he ⊢
    rw [if_pos ht]
    simp only [Option.isNone_none, if_true] at he ⊢
    have hi := dayNo_isDate (due_real (real_of hd) hkk.1 ht)
    have r2 := hi.range
    generalize dayNo (dueY y m kk) (dueM y m kk) (dueD y m d kk) = x at he r2 ⊢
    rw [next_in h _ x r2] at he
    unfold arrearsref07_Next.f
    rw [w64_ x (by omega) (by omega)]
    simp only [if_true]
    rcases first_or_none h (3652059 - x).toNat x (by omega) with ⟨q, hf⟩ | hn
    · have h1 := hf.1; have h2 := hf.2.1
      rw [next_first h hh q (q - x).toNat (k + 1) x (by omega) (by omega) r2.1 hf] at he
      simp only [Option.bind_some, Option.some.injEq, Prod.mk.injEq] at he
      obtain ⟨rfl, rfl⟩ := he
      rw [refnext_first h hh q (q - x).toNat k x (by omega) (by omega) r2.1 hf]
      simp only [Option.bind_some, Option.isNone_none, if_true]
      rw [decide_eq_true (show q ≥ 0 by omega), w64_ q (by omega) (by omega)]
      simp
    · rw [next_none h hh (3652059 - x).toNat (k + 1) x (by omega) (by omega) r2.1 hn] at he
      simp only [Option.bind_some, Option.some.injEq, Prod.mk.injEq] at he
      obtain ⟨rfl, rfl⟩ := he
      rw [refnext_none h hh (3652059 - x).toNat k x (by omega) (by omega) r2.1 hn]
      simp only [Option.bind_some, Option.isNone_some, Bool.false_eq_true, if_false, api_Code.f, Option.getD_some, if_true]
      rfl
  · rw [if_neg ht] at he ⊢
    rw [if_neg ht]
    simp only [Option.isNone_some, Bool.false_eq_true, if_false, Option.getD_some, Option.some.injEq, Prod.mk.injEq] at he
    obtain ⟨rfl, rfl⟩ := he
    simp only [api_Code.f, Option.getD_some, Option.bind_some]
    rfl
theorem rolls_all (k : Nat) (l : List Int) (n kk : Int) (hk : 3800000 + l.length ≤ k) (hl : l.length * 4 ≤ 140737488351232) (hb : ∀ x ∈ l, -2147483648 ≤ x ∧ x ≤ 2147483647) : arrearslaw07_DueRolls.f k l n kk = some true := by
  unfold arrearslaw07_DueRolls.f
  rw [awake_yes k (by omega)]
  simp only [Option.bind_some, if_true]
  rw [few_eq l hl hb k (by omega)]
  simp only [Option.bind_some]
  have hh : (l.take 60).length ≤ 1000 := by rw [List.length_take]; omega
  generalize l.take 60 = h at hh ⊢
  obtain ⟨k, rfl⟩ : ∃ q, k = q + 1 := ⟨k - 1, by omega⟩
  by_cases hall : (0 ≤ n ∧ n ≤ 3652058) ∧ 0 ≤ kk ∧ kk ≤ 480
  · obtain ⟨hn, hkk⟩ := hall
    obtain ⟨y, m, d, ec, hd⟩ := civil_ok n hn 20300 (by omega)
    cases he : due_Rolled.f (k + 1) h n kk with
    | none =>
      unfold due_Rolled.f at he
      rw [plain_ok (k + 1) (by omega) n kk hkk hd] at he
      simp only [Option.bind_some] at he
      unfold dueP at he
      by_cases ht : mno y m kk < 119988
      · rw [if_pos ht] at he
        simp only [Option.isNone_none, if_true] at he
        have hi := dayNo_isDate (due_real (real_of hd) hkk.1 ht)
        have r2 := hi.range
        clear hi
        generalize dayNo (dueY y m kk) (dueM y m kk) (dueD y m d kk) = x at he r2
        rw [next_in h _ x r2] at he
        rcases first_or_none h (3652059 - x).toNat x (by omega) with ⟨q, hf⟩ | hn'
        · have h1 := hf.1; have h2 := hf.2.1
          rw [next_first h hh q (q - x).toNat (k + 1) x (by omega) (by omega) r2.1 hf] at he
          simp at he
        · rw [next_none h hh (3652059 - x).toNat (k + 1) x (by omega) (by omega) r2.1 hn'] at he
          simp at he
      · rw [if_neg ht] at he
        simp at he
    | some x =>
      obtain ⟨v, e⟩ := x
      rw [plain_ok (k + 1) (by omega) n kk hkk hd]
      simp only [Option.bind_some]
      rw [if_neg (by omega), if_neg (by omega), if_neg (by omega), decide_eq_false (by omega)]
      exact rolls_yes k (by omega) n kk h hh hkk hd v e he
  · have hp := plain_arg (k + 1) (by omega) n kk hall
    have hr : due_Rolled.f (k + 1) h n kk = some (0, some 1) := by
      unfold due_Rolled.f
      rw [hp]
      rfl
    rw [hp, hr]
    simp only [Option.bind_some]
    have h0 := rolls_no (k + 1) (by omega) n kk h
    by_cases c1 : n < 0
    · rw [if_pos c1]; exact h0
    rw [if_neg c1]
    by_cases c2 : n > 3652058
    · rw [if_pos c2]; exact h0
    rw [if_neg c2]
    by_cases c3 : kk < 0
    · rw [if_pos c3]; exact h0
    rw [if_neg c3, decide_eq_true (by omega)]
    exact h0
theorem pure_proved : arrearslaw07_DueRolls.Pure := fun l n kk hl hb _ _ => ⟨3800000 + l.length, rolls_all _ l n kk (Nat.le_refl _) hl hb⟩

end Go.Proofs.YthokfepglahgpaaDoor.PDueRolls
