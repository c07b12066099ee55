/- The pure statement behind the law SpanAdds, over numbers and lists alone. Conditions: those that the printed statement names (each number is of its kind). -/
import Derived.Test.YtdkdjikfhclmaaaDoorDSpanAdds
import Derived.Test.YtdkdjikfhclmaaaDoorMcal
import Derived.Test.YtdkdjikfhclmaaaDoorMtxt
set_option linter.unusedVariables false
set_option linter.unusedSimpArgs false
namespace Go.Proofs.YtdkdjikfhclmaaaDoor.PSpanAdds
open Go.RowKit Go.Proofs.YtdkdjikfhclmaaaDoorW.PrintWords Go.Proofs.YtdkdjikfhclmaaaDoorW.PrintLast Go.Proofs.YtdkdjikfhclmaaaDoorW.PrintMore Go.Proofs.YtdkdjikfhclmaaaDoor.M

theorem w64_ (x : Int) (h0 : -1000000000000000 ≤ x) (h1 : x ≤ 1000000000000000) : wrap64 x = x := by unfold wrap64; omega
theorem leap_eq (y : Int) (h1 : 1 ≤ y) (h2 : y ≤ 9999) : date_Leap.f y = some (isLeap y) := by
  unfold date_Leap.f isLeap
  rw [if_pos (by omega), if_pos (by omega), tmod0 (by omega), tmod0 (by omega), tmod0 (by omega)]
  by_cases c : y % 4 = 0
  · rw [if_pos c]
    by_cases c1 : y % 100 = 0
    · rw [if_pos c1]
      refine congrArg some ?_
      rw [Bool.eq_iff_iff]
      simp
      omega
    · rw [if_neg c1, decide_eq_true ⟨c, .inl c1⟩]
  · rw [if_neg c, decide_eq_false (by omega)]
theorem length_eq (k : Nat) (hk : 2 ≤ k) (y m : Int) (hy : 1 ≤ y ∧ y ≤ 9999) (hm : 1 ≤ m ∧ m ≤ 12) : date_Length.f k y m = some (mlen y m) := by
  obtain ⟨k, rfl⟩ : ∃ j, k = j + 2 := ⟨k - 2, by omega⟩
  unfold date_Length.f mlen
  rw [if_neg (by omega), if_neg (by omega), if_neg (by omega), decide_eq_false (by omega)]
  simp only [date_Length.j0, date_Length.j1, Bool.false_eq_true, if_false]
  have hl := leap_eq y hy.1 hy.2
  by_cases c4 : m = 4
  · subst c4; rfl
  rw [if_neg c4]
  by_cases c6 : m = 6
  · subst c6; rfl
  rw [if_neg c6]
  by_cases c9 : m = 9
  · subst c9; rfl
  rw [if_neg c9]
  by_cases c11 : m = 11
  · subst c11; rfl
  rw [beq_eq_false_iff_ne.2 c11]
  simp only [Bool.false_eq_true, if_false]
  have hne : ¬ (m = 4 ∨ m = 6 ∨ m = 9 ∨ m = 11) := by omega
  rw [if_neg hne]
  by_cases c2 : m = 2
  · rw [if_pos c2, if_pos c2, hl]
    simp only [Option.bind_some]
    unfold lp
    cases isLeap y <;> rfl
  · rw [if_neg c2, if_neg c2]
theorem length_no (k : Nat) (hk : 1 ≤ k) (y m : Int) (h : ¬ ((1 ≤ y ∧ y ≤ 9999) ∧ (1 ≤ m ∧ m ≤ 12))) : date_Length.f k y m = some 0 := by
  obtain ⟨k, rfl⟩ : ∃ j, k = j + 1 := ⟨k - 1, by omega⟩
  have e : date_Length.j0 (k + 1) y m true = some 0 := by simp only [date_Length.j0, if_true]
  unfold date_Length.f
  by_cases c1 : y < 1
  · rw [if_pos c1, e]
  rw [if_neg c1]
  by_cases c2 : y > 9999
  · rw [if_pos c2, e]
  rw [if_neg c2]
  by_cases c3 : m < 1
  · rw [if_pos c3, e]
  rw [if_neg c3, decide_eq_true (by omega), e]
/-- Is there such a date? -/
def realDate (y m d : Int) : Prop := (1 ≤ y ∧ y ≤ 9999) ∧ (1 ≤ m ∧ m ≤ 12) ∧ (1 ≤ d ∧ d ≤ mlen y m)
instance (y m d : Int) : Decidable (realDate y m d) := by unfold realDate; infer_instance
theorem right_yes (k : Nat) (hk : 2 ≤ k) (y m d : Int) (h : realDate y m d) : date_Civil_Right.f k y m d = some true := by
  obtain ⟨hy, hm, hd⟩ := h
  unfold date_Civil_Right.f
  rw [if_pos (by omega), length_eq k hk y m hy hm]
  simp only [Option.bind_some]
  rw [decide_eq_true hd.2]
theorem right_no (k : Nat) (hk : 2 ≤ k) (y m d : Int) (h : ¬ realDate y m d) : date_Civil_Right.f k y m d = some false := by
  unfold date_Civil_Right.f
  by_cases c : d ≥ 1
  · rw [if_pos c]
    by_cases c2 : (1 ≤ y ∧ y ≤ 9999) ∧ (1 ≤ m ∧ m ≤ 12)
    · rw [length_eq k hk y m c2.1 c2.2]
      simp only [Option.bind_some]
      rw [decide_eq_false (fun h2 => h ⟨c2.1, c2.2, c, h2⟩)]
    · rw [length_no k (by omega) y m c2]
      simp only [Option.bind_some]
      rw [decide_eq_false (by omega)]
  · rw [if_neg c]
theorem right_eq (k : Nat) (hk : 2 ≤ k) (y m d : Int) : date_Civil_Right.f k y m d = some (decide (realDate y m d)) := by
  by_cases h : realDate y m d
  · rw [right_yes k hk y m d h, decide_eq_true h]
  · rw [right_no k hk y m d h, decide_eq_false h]


theorem begins_eq (y : Int) (h1 : 1 ≤ y) (h2 : y ≤ 10002) : date_begins.f y = some (dby y) := by
  unfold date_begins.f dby
  rw [w64_ (y - 1) (by omega) (by omega), tdiv0 (by omega), tdiv0 (by omega), tdiv0 (by omega), w64_ ((y - 1) * 365) (by omega) (by omega), w64_ ((y - 1) / 4) (by omega) (by omega), w64_ ((y - 1) / 100) (by omega) (by omega), w64_ ((y - 1) / 400) (by omega) (by omega),
    w64_ ((y - 1) * 365 + (y - 1) / 4) (by omega) (by omega), w64_ ((y - 1) * 365 + (y - 1) / 4 - (y - 1) / 100) (by omega) (by omega), w64_ _ (by omega) (by omega)]
  refine congrArg some ?_
  omega

theorem civil_l2 (n y : Int) (hn : 0 ≤ n ∧ n ≤ 3652058) (hy : 1 ≤ y ∧ y ≤ 9999) (hb : dby y ≤ n) (he : n < dby (y + 1)) :
    ∀ (j k : Nat) (m : Int), 13 - m = j → j + 4 < k → 1 ≤ m ∧ m ≤ 12 → cum y m ≤ n - dby y →
      ∃ m' d', date_Day_Civil.l2 k y (mlen y m) y m (n - dby y - cum y m + 1) = some (y, m', d', none) ∧ IsDate n y m' d' := by
  intro j
  induction j with
  | zero => intro k m hm _ hm2; omega
  | succ j ih =>
    intro k m hm hk hm2 hc
    obtain ⟨k, rfl⟩ : ∃ i, k = i + 1 := ⟨k - 1, by omega⟩
    have hbd := mlen_bd y m
    have hcs := cum_succ y m hm2.1 hm2.2
    have hcb := cum_bd y m hm2.1 (by omega)
    simp only [date_Day_Civil.l2]
    by_cases c : n - dby y - cum y m + 1 > mlen y m
    · rw [if_pos c]
      have hm3 : m < 12 := by
        by_cases h : m < 12
        · exact h
        · obtain rfl : m = 12 := by omega
          rw [show (12 : Int) + 1 = 13 by omega, cum_end] at hcs
          have := dby_succ y hy.1
          omega
      have hdb := dby_bd y hy.1 (by omega)
      rw [w64_ (m + 1) (by omega) (by omega), w64_ _ (by omega) (by omega), length_eq k (by omega) y (m + 1) hy (by omega)]
      simp only [Option.bind_some]
      rw [show n - dby y - cum y m + 1 - mlen y m = n - dby y - cum y (m + 1) + 1 by omega]
      exact ih k (m + 1) (by omega) (by omega) (by omega) (by omega)
    · rw [if_neg c]
      exact ⟨m, _, rfl, dates_exist n hn.1 hn.2 hy hb he hm2 hc (by omega)⟩
theorem civil_l1 (n : Int) (hn : 0 ≤ n ∧ n ≤ 3652058) : ∀ (j k : Nat) (y : Int), 9999 - y = j → j + 30 < k → 1 ≤ y → dby y ≤ n →
    ∃ y' m' d', date_Day_Civil.l1 k n y = some (y', m', d', none) ∧ IsDate n y' m' d' := by
  intro j
  induction j with
  | zero =>
    intro k y hy hk h1 hb
    obtain ⟨k, rfl⟩ : ∃ i, k = i + 1 := ⟨k - 1, by omega⟩
    obtain rfl : y = 9999 := by omega
    have ht := dby_top
    simp only [date_Day_Civil.l1]
    rw [w64_ (9999 + 1) (by omega) (by omega), w64_ n (by omega) (by omega), begins_eq (9999 + 1) (by omega) (by omega), begins_eq 9999 (by omega) (by omega), length_eq k (by omega) 9999 1 (by omega) (by omega)]
    simp only [Option.bind_some]
    rw [if_neg (by rw [show (9999 : Int) + 1 = 10000 by omega]; omega)]
    have hdb := dby_bd 9999 (by omega) (by omega)
    rw [w64_ (n - dby 9999) (by omega) (by omega), w64_ (n - dby 9999 + 1) (by omega) (by omega)]
    obtain ⟨m', d', e, hd⟩ := civil_l2 n 9999 hn (by omega) hb (by rw [show (9999 : Int) + 1 = 10000 by omega]; omega) 12 k 1 (by omega) (by omega) (by omega) (by rw [cum_one]; omega)
    rw [cum_one, show n - dby 9999 - 0 + 1 = n - dby 9999 + 1 by omega] at e
    exact ⟨_, m', d', e, hd⟩
  | succ j ih =>
    intro k y hy hk h1 hb
    obtain ⟨k, rfl⟩ : ∃ i, k = i + 1 := ⟨k - 1, by omega⟩
    simp only [date_Day_Civil.l1]
    rw [w64_ (y + 1) (by omega) (by omega), w64_ n (by omega) (by omega), begins_eq (y + 1) (by omega) (by omega), begins_eq y (by omega) (by omega), length_eq k (by omega) y 1 (by omega) (by omega)]
    simp only [Option.bind_some]
    by_cases c : dby (y + 1) ≤ n
    · rw [if_pos c]
      exact ih k (y + 1) (by omega) (by omega) (by omega) c
    · rw [if_neg c]
      have hdb := dby_bd y (by omega) (by omega)
      rw [w64_ (n - dby y) (by omega) (by omega), w64_ (n - dby y + 1) (by omega) (by omega)]
      obtain ⟨m', d', e, hd⟩ := civil_l2 n y hn (by omega) hb (by omega) 12 k 1 (by omega) (by omega) (by omega) (by rw [cum_one]; omega)
      rw [cum_one, show n - dby y - 0 + 1 = n - dby y + 1 by omega] at e
      exact ⟨_, m', d', e, hd⟩
theorem civil_l0 (n : Int) (hn : 0 ≤ n ∧ n ≤ 3652058) : ∀ (j k : Nat) (y : Int), y - 1 = j → y ≤ 10000 → 10100 + j < k →
    ∃ y' m' d', date_Day_Civil.l0 k n y = some (y', m', d', none) ∧ IsDate n y' m' d' := by
  intro j
  induction j with
  | zero =>
    intro k y hy hy2 hk
    obtain ⟨k, rfl⟩ : ∃ i, k = i + 1 := ⟨k - 1, by omega⟩
    obtain rfl : y = 1 := by omega
    have e1 : dby 1 = 0 := by decide
    simp only [date_Day_Civil.l0]
    rw [w64_ n (by omega) (by omega), begins_eq 1 (by omega) (by omega)]
    simp only [Option.bind_some]
    rw [if_neg (by omega)]
    exact civil_l1 n hn 9998 k 1 (by omega) (by omega) (by omega) (by omega)
  | succ j ih =>
    intro k y hy hy2 hk
    obtain ⟨k, rfl⟩ : ∃ i, k = i + 1 := ⟨k - 1, by omega⟩
    simp only [date_Day_Civil.l0]
    rw [w64_ n (by omega) (by omega), begins_eq y (by omega) (by omega)]
    simp only [Option.bind_some]
    by_cases c : dby y > n
    · rw [if_pos c, w64_ (y - 1) (by omega) (by omega)]
      exact ih k (y - 1) (by omega) (by omega) (by omega)
    · rw [if_neg c]
      have hy3 : y ≤ 9999 := by
        by_cases h : 9999 < y
        · have := dby_mono (a := 10000) (b := y) (by omega) (by omega)
          rw [dby_top] at this
          omega
        · omega
      exact civil_l1 n hn (9999 - y).toNat k y (by omega) (by omega) (by omega) (by omega)
theorem civil_ok (n : Int) (hn : 0 ≤ n ∧ n ≤ 3652058) (k : Nat) (hk : 20200 ≤ k) : ∃ y m d, date_Day_Civil.f k n = some (y, m, d, none) ∧ IsDate n y m d := by
  unfold date_Day_Civil.f date_Day_Right.f
  rw [if_pos (by omega), decide_eq_true hn.2]
  simp only [Option.bind_some, if_true]
  rw [w64_ n (by omega) (by omega), w64_ (n * 400) (by omega) (by omega), tdiv0 (by omega), w64_ (n * 400 / 146097) (by omega) (by omega), w64_ _ (by omega) (by omega)]
  exact civil_l0 n hn (n * 400 / 146097 + 1 - 1).toNat k _ (by omega) (by omega) (by omega)
theorem civil_no (n : Int) (h : ¬ (0 ≤ n ∧ n ≤ 3652058)) (k : Nat) : date_Day_Civil.f k n = some (0, 0, 0, some 1) := by
  unfold date_Day_Civil.f date_Day_Right.f
  by_cases c : n ≥ 0
  · rw [if_pos c, decide_eq_false (by omega)]
    rfl
  · rw [if_neg c]
    rfl
theorem real_of {n y m d : Int} (h : IsDate n y m d) : realDate y m d := ⟨h.hy, h.hm, h.hd⟩

theorem itoa_eq {n : Int} (h0 : 0 ≤ n) (h1 : n ≤ 9999) : strconv_Itoa.f n = some ⟨(Go.Lib.itoa n).toArray⟩ := by
  unfold strconv_Itoa.f
  rw [if_pos (by omega)]
theorem pad_step (k : Nat) (size : Int) (l : List UInt8) (h : (l.length : Int) < size) (hl : l.length ≤ 10) : date_pad.l0 (k + 1) size ⟨l.toArray⟩ = date_pad.l0 k size ⟨(48 :: l).toArray⟩ := by
  simp only [date_pad.l0]
  rw [mk_size, if_pos h, if_pos (by omega), show (⟨#[48]⟩ : ByteArray) = ⟨[48].toArray⟩ from rfl, mk_append]; rfl
theorem pad_done (k : Nat) (size : Int) (l : List UInt8) (h : ¬ (l.length : Int) < size) : date_pad.l0 (k + 1) size ⟨l.toArray⟩ = some ⟨l.toArray⟩ := by
  simp only [date_pad.l0]
  rw [mk_size, if_neg h]
theorem pad_two {n : Int} (h0 : 0 ≤ n) (h1 : n ≤ 99) (k : Nat) (hk : 2 ≤ k) : date_pad.f k n 2 = some ⟨(twoD n).toArray⟩ := by
  obtain ⟨k, rfl⟩ : ∃ j, k = j + 2 := ⟨k - 2, by omega⟩
  unfold date_pad.f
  rw [itoa_eq h0 (by omega)]
  simp only [Option.bind_some]
  by_cases c : n < 10
  · rw [itoa_1 h0 c, pad_step _ _ _ (by simp) (by simp), pad_done _ _ _ (by simp)]
    unfold twoD
    rw [show n / 10 = 0 by omega, show n % 10 = n by omega]; rfl
  · rw [itoa_2 (by omega) (by omega), pad_done _ _ _ (by simp [two_length])]
theorem pad_four {n : Int} (h0 : 0 ≤ n) (h1 : n ≤ 9999) (k : Nat) (hk : 4 ≤ k) : date_pad.f k n 4 = some ⟨(fourD n).toArray⟩ := by
  obtain ⟨k, rfl⟩ : ∃ j, k = j + 4 := ⟨k - 4, by omega⟩
  unfold date_pad.f
  rw [itoa_eq h0 (by omega)]
  simp only [Option.bind_some]
  by_cases c : n < 10
  · rw [itoa_1 h0 c, pad_step _ _ _ (by simp) (by simp), pad_step _ _ _ (by simp) (by simp), pad_step _ _ _ (by simp) (by simp), pad_done _ _ _ (by simp)]
    unfold fourD
    rw [show n / 1000 = 0 by omega, show n / 100 % 10 = 0 by omega, show n / 10 % 10 = 0 by omega, show n % 10 = n by omega]; rfl
  by_cases c2 : n < 100
  · rw [itoa_2 (by omega) c2, pad_step _ _ _ (by simp [two_length]) (by simp [two_length]), pad_step _ _ _ (by simp [two_length]) (by simp [two_length]), pad_done _ _ _ (by simp [two_length])]
    unfold fourD twoD
    rw [show n / 1000 = 0 by omega, show n / 100 % 10 = 0 by omega, show n / 10 % 10 = n / 10 by omega]; rfl
  by_cases c3 : n < 1000
  · rw [itoa_3 (by omega) c3, pad_step _ _ _ (by simp) (by simp), pad_done _ _ _ (by simp)]
    unfold fourD
    rw [show n / 1000 = 0 by omega, show n / 100 % 10 = n / 100 by omega]; rfl
  · rw [itoa_4 (by omega) (by omega), pad_done _ _ _ (by simp [four_length])]
theorem text_ok (k : Nat) (hk : 20200 ≤ k) (n y m d : Int) (h : IsDate n y m d) : date_Day_Text.f k n = some ⟨(textOf y m d).toArray⟩ := by
  obtain ⟨y', m', d', e, hd⟩ := civil_ok n h.range k hk
  obtain ⟨rfl, rfl, rfl⟩ := h.unique hd
  have h1 := h.hy; have h2 := h.hm; have h3 := h.hd; have h4 := mlen_bd y m
  unfold date_Day_Text.f
  rw [e]
  simp only [Option.bind_some, Option.isNone_none, if_true]
  rw [pad_four (by omega) (by omega) k (by omega), pad_two (n := m) (by omega) (by omega) k (by omega), pad_two (n := d) (by omega) (by omega) k (by omega)]
  simp only [Option.bind_some]
  rw [show (⟨#[45]⟩ : ByteArray) = ⟨[45].toArray⟩ from rfl]
  simp only [mk_append, mk_size, List.length_append, two_length, four_length, List.length_cons, List.length_nil]
  rw [if_pos (by decide), if_pos (by decide), if_pos (by decide), if_pos (by decide)]
  unfold textOf
  simp
theorem text_no (k : Nat) (n : Int) (h : ¬ (0 ≤ n ∧ n ≤ 3652058)) : date_Day_Text.f k n = some ⟨#[]⟩ := by
  unfold date_Day_Text.f
  rw [civil_no n h k]
  rfl



/-- The day's number of a date. -/
def dayNo (y m d : Int) : Int := dby y + cum y m + d - 1
theorem dayNo_isDate {y m d : Int} (h : realDate y m d) : IsDate (dayNo y m d) y m d := ⟨h.1, h.2.1, h.2.2, rfl⟩
theorem number_l0 (y m d : Int) (h : realDate y m d) : ∀ (j k : Nat) (i : Int), m - i = j → j + 3 < k → 1 ≤ i →
    date_Civil_Number.l0 k (dby y + d - 1 + cum y i) i y m d = some (dayNo y m d, none) := by
  obtain ⟨hy, hm, hd⟩ := h
  have hb := dby_bd y hy.1 (by omega)
  have hl := mlen_bd y m
  intro j
  induction j with
  | zero =>
    intro k i hi hk h1
    obtain ⟨k, rfl⟩ : ∃ q, k = q + 1 := ⟨k - 1, by omega⟩
    obtain rfl : i = m := by omega
    have hc := cum_bd y i h1 (by omega)
    simp only [date_Civil_Number.l0]
    rw [if_neg (by omega)]
    have : wrap32 (dby y + d - 1 + cum y i) = dayNo y i d := by unfold wrap32 dayNo; omega
    rw [this]
  | succ j ih =>
    intro k i hi hk h1
    obtain ⟨k, rfl⟩ : ∃ q, k = q + 1 := ⟨k - 1, by omega⟩
    have hc := cum_bd y i h1 (by omega)
    have hcs := cum_succ y i h1 (by omega)
    have hl2 := mlen_bd y i
    simp only [date_Civil_Number.l0]
    rw [if_pos (by omega), length_eq k (by omega) y i hy (by omega)]
    simp only [Option.bind_some]
    rw [w64_ (i + 1) (by omega) (by omega), w64_ _ (by omega) (by omega), show dby y + d - 1 + cum y i + mlen y i = dby y + d - 1 + cum y (i + 1) by omega]
    exact ih k (i + 1) (by omega) (by omega) (by omega)
theorem number_ok (k : Nat) (hk : 20 ≤ k) (y m d : Int) (h : realDate y m d) : date_Civil_Number.f k y m d = some (dayNo y m d, none) := by
  have hy := h.1; have hm := h.2.1; have hd := h.2.2
  have hb := dby_bd y hy.1 (by omega)
  have hl := mlen_bd y m
  unfold date_Civil_Number.f
  rw [right_yes k (by omega) y m d h, begins_eq y hy.1 (by omega)]
  simp only [Option.bind_some, if_true]
  rw [w64_ (dby y + d) (by omega) (by omega), w64_ (dby y + d - 1) (by omega) (by omega)]
  have := number_l0 y m d h (m - 1).toNat k 1 (by omega) (by omega) (by omega)
  rw [cum_one, Int.add_zero] at this
  exact this
theorem number_no (k : Nat) (hk : 2 ≤ k) (y m d : Int) (h : ¬ realDate y m d) : date_Civil_Number.f k y m d = some (0, some 1) := by
  unfold date_Civil_Number.f
  rw [right_no k hk y m d h]
  rfl

theorem atoiV_ok {l : List UInt8} {v : Int} (h : Go.Lib.atoiAll l = .ok v) : atoiV l = v := by unfold atoiV; rw [h]
theorem read_text (k : Nat) (hk : 20300 ≤ k) (y m d : Int) (h : realDate y m d) : date_Read.f k ⟨(textOf y m d).toArray⟩ = some (dayNo y m d, none) := by
  have hy := h.1; have hm := h.2.1; have hd := h.2.2; have hl := mlen_bd y m
  unfold date_Read.f
  rw [if_pos (by rw [mk_size]; rfl), ex04, ex57, ex810, atoiV_ok (atoi_four (n := y) (by omega) (by omega)), atoiV_ok (atoi_two (n := m) (by omega) (by omega)), atoiV_ok (atoi_two (n := d) (by omega) (by omega)), number_ok k (by omega) y m d h]
  simp only [Option.bind_some, Option.isNone_none, if_true]
  rw [text_ok k (by omega) (dayNo y m d) y m d (dayNo_isDate h)]
  simp
theorem read_other (k : Nat) (hk : 20300 ≤ k) (s : ByteArray) (h : ∀ y m d, realDate y m d → s.data.toList ≠ textOf y m d) : date_Read.f k s = some (0, some 15) := by
  unfold date_Read.f
  by_cases hs : s.size = 10
  · rw [if_pos hs]
    generalize atoiV (s.extract 0 4).data.toList = y
    generalize atoiV (s.extract 5 7).data.toList = m
    generalize atoiV (s.extract 8 10).data.toList = d
    by_cases hr : realDate y m d
    · rw [number_ok k (by omega) y m d hr]
      simp only [Option.bind_some, Option.isNone_none, if_true]
      rw [text_ok k (by omega) (dayNo y m d) y m d (dayNo_isDate hr)]
      simp only [Option.bind_some, toList_data]
      have : ((textOf y m d).toArray.toList == s.data.toList) = false := by
        rw [beq_eq_false_iff_ne]
        intro e
        exact h y m d hr (by rw [← e])
      rw [this]
      rfl
    · rw [number_no k (by omega) y m d hr]
      rfl
  · rw [if_neg hs]

/-- Between two dates, as if each month had 30 days. -/
def th (y m d y' m' d' : Int) : Int := 360 * (y' - y) + 30 * (m' - m) + (if 30 ≤ d then (if d' ≤ 30 then d' else 30) else d') - (if d ≤ 30 then d else 30)
theorem year_1 : span_Year.f 1 = some 365 := rfl
theorem year_2 : span_Year.f 2 = some 360 := rfl
theorem year_eq (b : Int) : span_Year.f b = some (if b = 1 then 365 else if b = 2 then 360 else 0) := by
  unfold span_Year.f
  by_cases h1 : b = 1
  · rw [if_pos h1, if_pos h1]
  · rw [if_neg h1, if_neg h1]
    by_cases h2 : b = 2
    · rw [if_pos h2, if_pos h2]
    · rw [if_neg h2, if_neg h2]
theorem mn_eq (a b : Int) : mn a b = if a ≤ b then a else b := by unfold mn; (repeat' split) <;> omega
theorem thirty_eq (y m d y' m' d' : Int) (hy : 1 ≤ y ∧ y ≤ 9999) (hy' : 1 ≤ y' ∧ y' ≤ 9999) (hm : 1 ≤ m ∧ m ≤ 12) (hm' : 1 ≤ m' ∧ m' ≤ 12) (hd : 1 ≤ d ∧ d ≤ 31) (hd' : 1 ≤ d' ∧ d' ≤ 31) : span_thirty.f y m d y' m' d' = some (th y m d y' m' d') := by
  unfold span_thirty.f th
  rw [year_2, mn_eq, mn_eq]
  simp only [Option.bind_some]
  rw [w64_ (y' - y) (by omega) (by omega), w64_ (m' - m) (by omega) (by omega), w64_ (360 * (y' - y)) (by omega) (by omega), w64_ (30 * (m' - m)) (by omega) (by omega), w64_ (360 * (y' - y) + 30 * (m' - m)) (by omega) (by omega)]
  by_cases c : 30 ≤ d
  · rw [if_pos c]
    by_cases c2 : d ≤ 30
    · rw [if_pos c2, if_pos (by omega), w64_ (360 * (y' - y) + 30 * (m' - m) + (if d' ≤ 30 then d' else 30)) (by split <;> omega) (by split <;> omega), w64_ _ (by split <;> omega) (by split <;> omega)]
    · rw [if_neg c2, if_pos rfl, w64_ (360 * (y' - y) + 30 * (m' - m) + (if d' ≤ 30 then d' else 30)) (by split <;> omega) (by split <;> omega), w64_ _ (by split <;> omega) (by split <;> omega)]
  · rw [if_neg c, if_pos (show d ≤ 30 by omega), if_neg (by omega), w64_ (360 * (y' - y) + 30 * (m' - m) + d') (by omega) (by omega), w64_ _ (by omega) (by omega)]
theorem days_j0 (k : Nat) (hk : 1 ≤ k) (b n n' a1 a2 a3 b1 b2 b3 : Int) : span_Days.j0 k b n n' true a1 a2 a3 b1 b2 b3 = some (0, some 1) := by
  obtain ⟨k, rfl⟩ : ∃ j, k = j + 1 := ⟨k - 1, by omega⟩
  simp only [span_Days.j0, if_true]
theorem days_ok (k : Nat) (hk : 20210 ≤ k) (b n n' : Int) (hb : b = 1 ∨ b = 2) {y m d y' m' d' : Int} (h : IsDate n y m d) (h' : IsDate n' y' m' d') (hle : n ≤ n') :
    span_Days.f k b n n' = some (if b = 2 then th y m d y' m' d' else n' - n, none) := by
  obtain ⟨y1, m1, d1, e, hd⟩ := civil_ok n h.range k (by omega)
  obtain ⟨rfl, rfl, rfl⟩ := h.unique hd
  obtain ⟨y2, m2, d2, e', hd'⟩ := civil_ok n' h'.range k (by omega)
  obtain ⟨rfl, rfl, rfl⟩ := h'.unique hd'
  have r1 := h.range; have r2 := h'.range
  have g1 := h.hy; have g2 := h.hm; have g3 := h.hd; have g4 := mlen_bd y m
  have f1 := h'.hy; have f2 := h'.hm; have f3 := h'.hd; have f4 := mlen_bd y' m'
  unfold span_Days.f
  rw [e, e', year_eq]
  simp only [Option.bind_some, Option.isNone_none, if_true]
  obtain ⟨k, rfl⟩ : ∃ j, k = j + 1 := ⟨k - 1, by omega⟩
  rcases hb with rfl | rfl
  · rw [if_neg (show ¬ (if (1 : Int) = 1 then (365 : Int) else if (1 : Int) = 2 then 360 else 0) = 0 by decide), decide_eq_false (show ¬ n' < n by omega)]
    simp only [span_Days.j0, Bool.false_eq_true, if_false]
    rw [if_neg (by omega), if_neg (by omega)]
    have w : wrap32 (n' - n) = n' - n := by unfold wrap32; omega
    rw [w, w64_ _ (by omega) (by omega)]
  · rw [if_neg (show ¬ (if (2 : Int) = 1 then (365 : Int) else if (2 : Int) = 2 then 360 else 0) = 0 by decide), decide_eq_false (show ¬ n' < n by omega)]
    simp only [span_Days.j0, Bool.false_eq_true, if_false]
    simp only [if_true]
    rw [thirty_eq y m d y' m' d' g1 f1 g2 f2 (by omega) (by omega)]
    rfl
theorem days_no (k : Nat) (hk : 20210 ≤ k) (b n n' : Int) (h : ¬ ((b = 1 ∨ b = 2) ∧ (0 ≤ n ∧ n ≤ 3652058) ∧ (0 ≤ n' ∧ n' ≤ 3652058) ∧ n ≤ n')) : span_Days.f k b n n' = some (0, some 1) := by
  unfold span_Days.f
  by_cases c1 : 0 ≤ n ∧ n ≤ 3652058
  · obtain ⟨y, m, d, e, hd⟩ := civil_ok n c1 k (by omega)
    rw [e]
    by_cases c2 : 0 ≤ n' ∧ n' ≤ 3652058
    · obtain ⟨y', m', d', e', hd'⟩ := civil_ok n' c2 k (by omega)
      rw [e', year_eq]
      simp only [Option.bind_some, Option.isNone_none, if_true]
      by_cases c3 : b = 1 ∨ b = 2
      · have : ¬ (if b = 1 then (365 : Int) else if b = 2 then 360 else 0) = 0 := by
          rcases c3 with rfl | rfl <;> decide
        rw [if_neg this, decide_eq_true (by omega)]
        exact days_j0 k (by omega) _ _ _ _ _ _ _ _ _
      · rw [if_pos (by rw [if_neg (by omega), if_neg (by omega)])]
        exact days_j0 k (by omega) _ _ _ _ _ _ _ _ _
    · rw [civil_no n' c2]
      simp only [Option.bind_some, Option.isNone_none, if_true, Option.isNone_some, Bool.false_eq_true, if_false]
      exact days_j0 k (by omega) _ _ _ _ _ _ _ _ _
  · rw [civil_no n c1]
    by_cases c2 : 0 ≤ n' ∧ n' ≤ 3652058
    · obtain ⟨y', m', d', e', hd'⟩ := civil_ok n' c2 k (by omega)
      rw [e']
      simp only [Option.bind_some, Option.isNone_some, Bool.false_eq_true, if_false]
      exact days_j0 k (by omega) _ _ _ _ _ _ _ _ _
    · rw [civil_no n' c2]
      simp only [Option.bind_some, Option.isNone_some, Bool.false_eq_true, if_false]
      exact days_j0 k (by omega) _ _ _ _ _ _ _ _ _
theorem awake_yes (k : Nat) (hk : 20310 ≤ k) : arrearslaw06_awake.f k = some true := by
  have hr : realDate 2023 2 28 := by decide
  have hr' : realDate 2023 3 1 := by decide
  have h := dayNo_isDate hr
  have h' : IsDate (dayNo 2023 2 28 + 1) 2023 3 1 := by
    have e : dayNo 2023 2 28 + 1 = dayNo 2023 3 1 := by decide
    rw [e]; exact dayNo_isDate hr'
  have hg := h.range
  unfold arrearslaw06_awake.f
  rw [show (⟨#[50, 48, 50, 51, 45, 48, 50, 45, 50, 56]⟩ : ByteArray) = ⟨(textOf 2023 2 28).toArray⟩ by decide +kernel, read_text k (by omega) 2023 2 28 hr]
  simp only [Option.bind_some, Option.isNone_none, if_true]
  have w : wrap32 (dayNo 2023 2 28 + 1) = dayNo 2023 2 28 + 1 := by unfold wrap32; omega
  rw [w, days_ok k (by omega) 2 _ _ (.inr rfl) h h' (by omega)]
  simp only [Option.bind_some, Option.isNone_none, if_true]
  rw [if_pos (by decide), year_1]
  rfl

/-- What a day adds, by months of 30 days. -/
def one2 (y m d : Int) : Int := if d < mlen y m then 1 else 31 - mlen y m
/-- From a month's first day to a date. -/
def upto (b from_ y0 m0 n y m d : Int) : Int := if b = 2 then 360 * (y - y0) + 30 * (m - m0) + d - 1 else n - from_
theorem th_first {y m y' m' d' : Int} : th y m 1 y' m' d' = 360 * (y' - y) + 30 * (m' - m) + d' - 1 := by
  unfold th
  rw [if_neg (by omega), if_pos (by omega)]
theorem first_of {n y m d : Int} (h : IsDate n y m d) : IsDate (n - (d - 1)) y m 1 := ⟨h.hy, h.hm, ⟨by omega, by have := mlen_bd y m; omega⟩, by have := h.hn; omega⟩
theorem next_of {n y m d : Int} (h : IsDate n y m d) (hn : n < 3652058) : ∃ y' m' d', IsDate (n + 1) y' m' d' ∧ ((360 * y' + 30 * m' + d') = 360 * y + 30 * m + d + one2 y m d) := by
  unfold one2
  by_cases c : d < mlen y m
  · exact ⟨_, _, _, h.next_day c, by rw [if_pos c]; omega⟩
  · have hd : d = mlen y m := by have := h.hd; omega
    by_cases cm : m < 12
    · exact ⟨_, _, _, h.next_month hd cm, by rw [if_neg c]; omega⟩
    · have hm : m = 12 := by have := h.hm; omega
      exact ⟨_, _, _, h.next_year hd hm hn, by rw [if_neg c]; omega⟩
theorem one_ok (k : Nat) (hk : 20210 ≤ k) (b n : Int) (hb : b = 1 ∨ b = 2) (hn : n < 3652058) {y m d : Int} (h : IsDate n y m d) : span_One.f k b n = some (if b = 2 then one2 y m d else 1, none) := by
  have r := h.range
  obtain ⟨y1, m1, d1, e, hd⟩ := civil_ok n r k (by omega)
  obtain ⟨rfl, rfl, rfl⟩ := h.unique hd
  obtain ⟨y', m', d', h', e'⟩ := next_of h hn
  have hf := first_of h
  have rf := hf.range
  have g3 := h.hd; have g4 := mlen_bd y m
  unfold span_One.f
  rw [if_neg (by omega), e]
  simp only [Option.bind_some, Option.isNone_none, if_true]
  have w1 : wrap32 (wrap64 (d - 1)) = d - 1 := by rw [w64_ (d - 1) (by omega) (by omega)]; unfold wrap32; omega
  have w2 : wrap32 (n - (d - 1)) = n - (d - 1) := by unfold wrap32; omega
  have w3 : wrap32 (n + 1) = n + 1 := by unfold wrap32; omega
  rw [w1, w2, w3, days_ok k hk b _ _ hb hf h (by omega), days_ok k hk b _ _ hb hf h' (by omega)]
  simp only [Option.bind_some, Option.isNone_none, if_true]
  rw [th_first, th_first]
  refine congrArg some (Prod.ext ?_ rfl)
  have o : -3 ≤ one2 y m d ∧ one2 y m d ≤ 3 := by unfold one2; split <;> omega
  show wrap64 _ = _
  rcases hb with rfl | rfl
  · rw [if_neg (by omega), if_neg (by omega), if_neg (by omega), w64_ _ (by omega) (by omega)]; omega
  · rw [if_pos rfl, if_pos rfl, if_pos rfl, w64_ _ (by omega) (by omega)]; omega
theorem one_no (k : Nat) (hk : 20210 ≤ k) (b n : Int) (hnb : -2147483648 ≤ n ∧ n ≤ 2147483647) (h : ¬ ((b = 1 ∨ b = 2) ∧ 0 ≤ n ∧ n < 3652058)) : span_One.f k b n = some (0, some 1) := by
  unfold span_One.f
  by_cases c : n ≥ 3652058
  · rw [if_pos c]
  rw [if_neg c]
  by_cases c0 : 0 ≤ n
  · obtain ⟨y, m, d, e, hd⟩ := civil_ok n (by omega) k (by omega)
    rw [e]
    simp only [Option.bind_some, Option.isNone_none, if_true]
    rw [days_no k hk b _ _ (fun q => h ⟨q.1, by omega⟩)]
    rfl
  · rw [civil_no n (by omega)]
    rfl
/-- One day further. -/
theorem upto_next {b from_ y0 m0 n y m d : Int} (hb : b = 1 ∨ b = 2) (h : IsDate n y m d) (hn : n < 3652058) : ∃ y' m' d', IsDate (n + 1) y' m' d' ∧ upto b from_ y0 m0 (n + 1) y' m' d' = upto b from_ y0 m0 n y m d + (if b = 2 then one2 y m d else 1) := by
  obtain ⟨y', m', d', h', e⟩ := next_of h hn
  refine ⟨y', m', d', h', ?_⟩
  unfold upto
  rcases hb with rfl | rfl
  · rw [if_neg (by omega), if_neg (by omega), if_neg (by omega)]; omega
  · rw [if_pos rfl, if_pos rfl, if_pos rfl]; omega
theorem upto_bd {b from_ y0 m0 n y m d : Int} (hb : b = 1 ∨ b = 2) (h : IsDate n y m d) (hf : 0 ≤ from_ ∧ from_ ≤ 3652058) (hy : 1 ≤ y0 ∧ y0 ≤ 9999) (hm : 1 ≤ m0 ∧ m0 ≤ 12) : -10000000 ≤ upto b from_ y0 m0 n y m d ∧ upto b from_ y0 m0 n y m d ≤ 10000000 := by
  have := h.hy; have := h.hm; have := h.hd; have := mlen_bd y m; have := h.range
  unfold upto
  rcases hb with rfl | rfl
  · rw [if_neg (by omega)]; omega
  · rw [if_pos rfl]; omega
theorem one2_bd (y m d : Int) : 0 ≤ one2 y m d ∧ one2 y m d ≤ 3 := by have := mlen_bd y m; unfold one2; split <;> omega



theorem refleap_eq (y : Int) (h1 : 1 ≤ y) (h2 : y ≤ 9999) : arrearsref05_Leap.f y = some (isLeap y) := by
  unfold arrearsref05_Leap.f isLeap
  rw [if_neg (by omega), if_neg (by omega), tmod0 (by omega), tmod0 (by omega), tmod0 (by omega)]
  by_cases c : y % 4 > 0
  · rw [if_pos c, decide_eq_false (by omega)]
  · rw [if_neg c]
    by_cases c1 : y % 100 > 0
    · rw [if_pos c1, decide_eq_true ⟨by omega, .inl (by omega)⟩]
    · rw [if_neg c1]
      refine congrArg some ?_
      rw [Bool.eq_iff_iff]
      simp
      omega
theorem reflength_eq (k : Nat) (hk : 1 ≤ k) (y m : Int) (hy : 1 ≤ y ∧ y ≤ 9999) (hm : 1 ≤ m ∧ m ≤ 12) : arrearsref05_Length.f k y m = some (mlen y m) := by
  obtain ⟨k, rfl⟩ : ∃ j, k = j + 1 := ⟨k - 1, by omega⟩
  unfold arrearsref05_Length.f
  rw [if_neg (by omega), if_neg (by omega), if_neg (by omega), decide_eq_false (by omega)]
  simp only [arrearsref05_Length.j0, Bool.false_eq_true, if_false, Option.bind_some]
  rw [w64_ (m - 1) (by omega) (by omega), if_pos (by omega), if_pos (by simp; omega), refleap_eq y hy.1 hy.2]
  simp only [Option.bind_some]
  have : m = 1 ∨ m = 2 ∨ m = 3 ∨ m = 4 ∨ m = 5 ∨ m = 6 ∨ m = 7 ∨ m = 8 ∨ m = 9 ∨ m = 10 ∨ m = 11 ∨ m = 12 := by omega
  rcases this with rfl | rfl | rfl | rfl | rfl | rfl | rfl | rfl | rfl | rfl | rfl | rfl
  case inr.inl =>
    rw [if_pos rfl]
    unfold mlen lp
    cases isLeap y <;> decide +kernel
  all_goals rfl
theorem reflength_no (k : Nat) (hk : 1 ≤ k) (y m : Int) (h : ¬ ((1 ≤ y ∧ y ≤ 9999) ∧ (1 ≤ m ∧ m ≤ 12))) : arrearsref05_Length.f k y m = some 0 := by
  obtain ⟨k, rfl⟩ : ∃ j, k = j + 1 := ⟨k - 1, by omega⟩
  have e : arrearsref05_Length.j0 (k + 1) y m true = some 0 := by simp only [arrearsref05_Length.j0, if_true]
  unfold arrearsref05_Length.f
  by_cases c1 : y < 1
  · rw [if_pos c1, e]
  rw [if_neg c1]
  by_cases c2 : y > 9999
  · rw [if_pos c2, e]
  rw [if_neg c2]
  by_cases c3 : m < 1
  · rw [if_pos c3, e]
  rw [if_neg c3, decide_eq_true (by omega), e]

theorem refnumber_l1 (y m d : Int) (h : realDate y m d) : ∀ (j k : Nat) (i : Int), m - i = j → j + 3 < k → 1 ≤ i →
    arrearsref05_Number.l1 k (dby y + cum y i) i y m d = some (dayNo y m d) := by
  obtain ⟨hy, hm, hd⟩ := h
  have hb := dby_bd y hy.1 (by omega)
  have hl := mlen_bd y m
  intro j
  induction j with
  | zero =>
    intro k i hi hk h1
    obtain ⟨k, rfl⟩ : ∃ q, k = q + 1 := ⟨k - 1, by omega⟩
    obtain rfl : i = m := by omega
    have hc := cum_bd y i h1 (by omega)
    simp only [arrearsref05_Number.l1]
    rw [if_neg (by omega), w64_ (dby y + cum y i + d) (by omega) (by omega), w64_ (dby y + cum y i + d - 1) (by omega) (by omega)]
    rfl
  | succ j ih =>
    intro k i hi hk h1
    obtain ⟨k, rfl⟩ : ∃ q, k = q + 1 := ⟨k - 1, by omega⟩
    have hc := cum_bd y i h1 (by omega)
    have hcs := cum_succ y i h1 (by omega)
    have hl2 := mlen_bd y i
    simp only [arrearsref05_Number.l1]
    rw [if_pos (by omega), reflength_eq k (by omega) y i hy (by omega)]
    simp only [Option.bind_some]
    rw [w64_ (i + 1) (by omega) (by omega), w64_ _ (by omega) (by omega), show dby y + cum y i + mlen y i = dby y + cum y (i + 1) by omega]
    exact ih k (i + 1) (by omega) (by omega) (by omega)
theorem refnumber_l0 (y m d : Int) (h : realDate y m d) : ∀ (j k : Nat) (i : Int), y - i = j → j + 30 < k → 1 ≤ i →
    arrearsref05_Number.l0 k (dby i) i y m d = some (dayNo y m d) := by
  have hy := h.1; have hm := h.2.1
  intro j
  induction j with
  | zero =>
    intro k i hi hk h1
    obtain ⟨k, rfl⟩ : ∃ q, k = q + 1 := ⟨k - 1, by omega⟩
    obtain rfl : i = y := by omega
    simp only [arrearsref05_Number.l0]
    rw [if_neg (by omega)]
    have := refnumber_l1 i m d h (m - 1).toNat k 1 (by omega) (by omega) (by omega)
    rw [cum_one, Int.add_zero] at this
    exact this
  | succ j ih =>
    intro k i hi hk h1
    obtain ⟨k, rfl⟩ : ∃ q, k = q + 1 := ⟨k - 1, by omega⟩
    have hb := dby_bd i h1 (by omega)
    have hs := dby_succ i h1
    simp only [arrearsref05_Number.l0]
    rw [if_pos (by omega), refleap_eq i h1 (by omega)]
    simp only [Option.bind_some]
    rw [w64_ (i + 1) (by omega) (by omega), w64_ (dby i + 365) (by omega) (by omega), w64_ (dby i + 365 + 1) (by omega) (by omega)]
    have hi' := ih k (i + 1) (by omega) (by omega) (by omega)
    rw [hs] at hi'
    unfold lp at hi'
    cases hl : isLeap i with
    | true => rw [hl] at hi'; simp only [if_true] at hi' ⊢; exact hi'
    | false => rw [hl] at hi'; simp only [Bool.false_eq_true, if_false, Int.add_zero] at hi' ⊢; exact hi'
theorem refnumber_ok (k : Nat) (hk : 500 ≤ k) (y m d : Int) (h : realDate y m d) : arrearsref05_Number.f k y m d = some (dayNo y m d) := by
  have hy := h.1
  unfold arrearsref05_Number.f
  rw [w64_ (y - 1) (by omega) (by omega), tdiv0 (by omega), tmod0 (by omega), w64_ ((y - 1) / 400) (by omega) (by omega), w64_ (146097 * _) (by omega) (by omega), w64_ (y - _) (by omega) (by omega)]
  have e : dby (y - (y - 1) % 400) = 146097 * ((y - 1) / 400) := by unfold dby; omega
  rw [← e]
  exact refnumber_l0 y m d h ((y - 1) % 400).toNat k _ (by omega) (by omega) (by omega)

theorem next_eq (k : Nat) (hk : 1 ≤ k) (y m : Int) (hy : 0 ≤ y ∧ y ≤ 20000) (hm : 1 ≤ m ∧ m ≤ 12) : arrearsref05_Next.f k y m false = some (if m = 12 then (y + 1, 1) else (y, m + 1)) := by
  obtain ⟨k, rfl⟩ : ∃ q, k = q + 1 := ⟨k - 1, by omega⟩
  unfold arrearsref05_Next.f
  simp only [Bool.false_eq_true, if_false, arrearsref05_Next.j0]
  rw [w64_ (y + 1) (by omega) (by omega), w64_ (m + 1) (by omega) (by omega)]
  by_cases c : m = 12
  · rw [if_pos c, if_pos c]
  · rw [if_neg c, if_neg c]
theorem adds_l1 (b more y0 m0 f t yt mt : Int) (hb : b = 1 ∨ b = 2) (hy0 : 1 ≤ y0 ∧ y0 ≤ 9999) (hm0 : 1 ≤ m0 ∧ m0 ≤ 12) (hf : IsDate f y0 m0 1) (ht : IsDate t yt mt 1) (htt : t ≤ 3652058) (hmore : 0 ≤ more ∧ more ≤ 255) (hd : 12 * (yt - y0) + (mt - m0) = more % 14) :
    ∀ (j k : Nat) (n s : Int) {y m d : Int}, t - n = j → j + 20300 < k → f ≤ n → IsDate n y m d → s = upto b f y0 m0 n y m d →
    arrearslaw06_SpanAdds.l1 k b more t (if b = 2 then th y0 m0 1 yt mt 1 else t - f) none s n = some true := by
  have rf := hf.range; have rt := ht.range
  intro j
  induction j with
  | zero =>
    intro k n s y m d hj hk hle h hs
    obtain ⟨k, rfl⟩ : ∃ q, k = q + 1 := ⟨k - 1, by omega⟩
    obtain rfl : n = t := by omega
    obtain ⟨rfl, rfl, rfl⟩ := ht.unique h
    simp only [arrearslaw06_SpanAdds.l1]
    rw [if_neg (show ¬ n < n by omega)]
    rcases hb with rfl | rfl
    · rw [hs]; simp [upto]
    · rw [hs, th_first]
      simp only [Option.isNone_none, if_true, upto]
      rw [if_neg (show ¬ (2 : Int) = 1 by decide), tmod0 hmore.1, w64_ (more % 14) (by omega) (by omega), w64_ (30 * (more % 14)) (by omega) (by omega)]
      have e : 360 * (yt - y0) + 30 * (mt - m0) + 1 - 1 = 30 * (more % 14) := by omega
      rw [e]; simp
  | succ j ih =>
    intro k n s y m d hj hk hle h hs
    obtain ⟨k, rfl⟩ : ∃ q, k = q + 1 := ⟨k - 1, by omega⟩
    simp only [arrearslaw06_SpanAdds.l1]
    have w1 : wrap32 n = n := by unfold wrap32; omega
    have hn : n < 3652058 := by omega
    rw [if_pos (by omega), w1, one_ok k (by omega) b n hb hn h]
    simp only [Option.bind_some, Option.isNone_none, if_true]
    obtain ⟨y', m', d', h', e⟩ := upto_next (b := b) (from_ := f) (y0 := y0) (m0 := m0) hb h hn
    have bd := upto_bd (b := b) (from_ := f) (y0 := y0) (m0 := m0) hb h rf hy0 hm0
    have o := one2_bd y m d
    have w2 : wrap64 (s + (if b = 2 then one2 y m d else 1)) = s + (if b = 2 then one2 y m d else 1) := w64_ _ (by split <;> omega) (by split <;> omega)
    rw [w2, w64_ (n + 1) (by omega) (by omega)]
    exact ih k (n + 1) _ (by omega) (by omega) (by omega) h' (by rw [e, hs])
theorem months_len (y0 m0 y m : Int) {a c : Int} (hy0 : 1 ≤ y0 ∧ y0 ≤ 9990) (hm0 : 1 ≤ m0 ∧ m0 ≤ 12) (hm : 1 ≤ m ∧ m ≤ 12) (h : 12 * (y - y0) + (m - m0) ≤ 13) (e1 : a = dby y + cum y m) (e2 : c = dby y0 + cum y0 m0) : a - c ≤ 1200 := by
  have c1 := cum_bd y m hm.1 (by omega); have c2 := cum_bd y0 m0 hm0.1 (by omega)
  by_cases q : y ≤ y0
  · by_cases q1 : 1 ≤ y
    · have := dby_mono q1 q; omega
    · have : dby y ≤ 0 := by unfold dby; omega
      have := dby_bd y0 hy0.1 (by omega); omega
  · have hs : dby y ≤ dby (y0 + 2) := dby_mono (by omega) (by omega)
    have s1 := dby_succ y0 hy0.1; have s2 := dby_succ (y0 + 1) (by omega)
    have l1 := lp_01 y0; have l2 := lp_01 (y0 + 1)
    rw [show y0 + 1 + 1 = y0 + 2 by omega] at s2
    omega
theorem adds_l0 (b more y0 m0 f : Int) (hb : b = 1 ∨ b = 2) (hy0 : 1 ≤ y0 ∧ y0 ≤ 9990) (hm0 : 1 ≤ m0 ∧ m0 ≤ 12) (hf : f = dayNo y0 m0 1) (hmore : 0 ≤ more ∧ more ≤ 255) : ∀ (j k : Nat) (i y m : Int), more % 14 - i = j → j + 22000 < k → 0 ≤ i → 1 ≤ m ∧ m ≤ 12 → 12 * (y - y0) + (m - m0) = i →
    arrearslaw06_SpanAdds.l0 k b more y m f (more % 14) i = some true := by
  have r0 : realDate y0 m0 1 := ⟨by omega, hm0, by have := mlen_bd y0 m0; omega⟩
  have d0 := dayNo_isDate r0
  have g0 := d0.range
  intro j
  induction j with
  | zero =>
    intro k i y m hj hk h0 hm he
    obtain ⟨k, rfl⟩ : ∃ q, k = q + 1 := ⟨k - 1, by omega⟩
    have r1 : realDate y m 1 := ⟨by omega, hm, by have := mlen_bd y m; omega⟩
    have d1 := dayNo_isDate r1
    have g1 := d1.range
    have hle : dayNo y0 m0 1 ≤ dayNo y m 1 := by
      by_cases q : dayNo y m 1 < dayNo y0 m0 1
      · have := (d1.later d0).2 q; omega
      · omega
    simp only [arrearslaw06_SpanAdds.l0]
    rw [if_neg (by omega), refnumber_ok k (by omega) y m 1 r1]
    simp only [Option.bind_some]
    have w1 : wrap32 f = dayNo y0 m0 1 := by rw [hf]; unfold wrap32; omega
    have w2 : wrap32 (dayNo y m 1) = dayNo y m 1 := by unfold wrap32; omega
    rw [w1, w2, days_ok k (by omega) b _ _ hb d0 d1 hle]
    simp only [Option.bind_some]
    have hlen : dayNo y m 1 - dayNo y0 m0 1 ≤ 1200 := by
      have e1 : dayNo y m 1 = dby y + cum y m := by unfold dayNo; omega
      have e2 : dayNo y0 m0 1 = dby y0 + cum y0 m0 := by unfold dayNo; omega
      exact months_len y0 m0 y m hy0 hm0 hm (by omega) e1 e2
    rw [hf]
    refine adds_l1 b more y0 m0 _ _ y m hb (by omega) hm0 d0 d1 (by omega) hmore (by omega) (dayNo y m 1 - dayNo y0 m0 1).toNat k _ 0 (by omega) (by omega) (by omega) d0 ?_
    unfold upto
    split <;> omega
  | succ j ih =>
    intro k i y m hj hk h0 hm he
    obtain ⟨k, rfl⟩ : ∃ q, k = q + 1 := ⟨k - 1, by omega⟩
    simp only [arrearslaw06_SpanAdds.l0]
    rw [if_pos (by omega), next_eq k (by omega) y m (by omega) hm]
    simp only [Option.bind_some]
    rw [show (i + 1) % 256 = i + 1 by omega]
    by_cases c : m = 12
    · rw [if_pos c]
      exact ih k (i + 1) (y + 1) 1 (by omega) (by omega) (by omega) (by omega) (by omega)
    · rw [if_neg c]
      exact ih k (i + 1) y (m + 1) (by omega) (by omega) (by omega) (by omega) (by omega)
theorem adds_all (k : Nat) (hk : 22100 ≤ k) (b y m more : Int) (hb : 0 ≤ b ∧ b ≤ 255) (hy : 0 ≤ y ∧ y ≤ 65535) (hm : 0 ≤ m ∧ m ≤ 255) (hmore : 0 ≤ more ∧ more ≤ 255) : arrearslaw06_SpanAdds.f k b y m more = some true := by
  unfold arrearslaw06_SpanAdds.f
  rw [awake_yes _ (by omega)]
  simp only [Option.bind_some, if_true]
  rw [tmod0 hy.1, tmod0 hm.1, tmod0 hb.1, tmod0 hmore.1, w64_ (y % 9990) (by omega) (by omega), w64_ (1 + y % 9990) (by omega) (by omega), w64_ (m % 12) (by omega) (by omega), w64_ (1 + m % 12) (by omega) (by omega)]
  have r0 : realDate (1 + y % 9990) (1 + m % 12) 1 := ⟨by omega, by omega, by have := mlen_bd (1 + y % 9990) (1 + m % 12); omega⟩
  rw [refnumber_ok k (by omega) _ _ 1 r0]
  simp only [Option.bind_some]
  exact adds_l0 _ more (1 + y % 9990) (1 + m % 12) _ (by omega) (by omega) (by omega) rfl hmore (more % 14).toNat k 0 _ _ (by omega) (by omega) (by omega) (by omega) (by omega)
theorem pure_proved : arrearslaw06_SpanAdds.Pure := fun b y m more hb hy hm hmore => ⟨22100, adds_all 22100 (Nat.le_refl _) b y m more hb hy hm hmore⟩

end Go.Proofs.YtdkdjikfhclmaaaDoor.PSpanAdds
