/- The pure statement behind the law YieldDays, over numbers and lists alone. Conditions: those that the printed statement names (each number is of its kind). -/
import Derived.Test.YtldicnmpegkicaaDoorDYieldDays
import Derived.Test.YtldicnmpegkicaaDoorMcal
import Derived.Test.YtldicnmpegkicaaDoorMwords64
import Derived.Test.YtldicnmpegkicaaDoorMlvl
import Derived.Lib.ItoaNum
set_option linter.unusedVariables false
set_option linter.unusedSimpArgs false
namespace Go.Proofs.YtldicnmpegkicaaDoor.PYieldDays
open Go.RowKit Go.Proofs.YtldicnmpegkicaaDoorW.PrintWords Go.Proofs.YtldicnmpegkicaaDoorW.PrintLast Go.Proofs.YtldicnmpegkicaaDoorW.PrintMore Go.Proofs.YtldicnmpegkicaaDoor.M

theorem w64_ (x : Int) (h0 : -1000000000000000 ≤ x) (h1 : x ≤ 1000000000000000) : wrap64 x = x := by unfold wrap64; omega
theorem leap_eq (y : Int) (h1 : 1 ≤ y) (h2 : y ≤ 9999) : date_Leap.f y = some (isLeap y) := by
  unfold date_Leap.f isLeap
  rw [if_pos (by omega), if_pos (by omega), tmod0 (by omega), tmod0 (by omega), tmod0 (by omega)]
  by_cases c : y % 4 = 0
  · rw [if_pos c]
    by_cases c1 : y % 100 = 0
    · rw [if_pos c1]
      refine congrArg some ?_
      rw [Bool.eq_iff_iff]
      simp
      omega
    · rw [if_neg c1, decide_eq_true ⟨c, .inl c1⟩]
  · rw [if_neg c, decide_eq_false (by omega)]
theorem length_eq (k : Nat) (hk : 2 ≤ k) (y m : Int) (hy : 1 ≤ y ∧ y ≤ 9999) (hm : 1 ≤ m ∧ m ≤ 12) : date_Length.f k y m = some (mlen y m) := by
  obtain ⟨k, rfl⟩ : ∃ j, k = j + 2 := ⟨k - 2, by omega⟩
  unfold date_Length.f mlen
  rw [if_neg (by omega), if_neg (by omega), if_neg (by omega), decide_eq_false (by omega)]
  simp only [date_Length.j0, date_Length.j1, Bool.false_eq_true, if_false]
  have hl := leap_eq y hy.1 hy.2
  by_cases c4 : m = 4
  · subst c4; rfl
  rw [if_neg c4]
  by_cases c6 : m = 6
  · subst c6; rfl
  rw [if_neg c6]
  by_cases c9 : m = 9
  · subst c9; rfl
  rw [if_neg c9]
  by_cases c11 : m = 11
  · subst c11; rfl
  rw [beq_eq_false_iff_ne.2 c11]
  simp only [Bool.false_eq_true, if_false]
  have hne : ¬ (m = 4 ∨ m = 6 ∨ m = 9 ∨ m = 11) := by omega
  rw [if_neg hne]
  by_cases c2 : m = 2
  · rw [if_pos c2, if_pos c2, hl]
    simp only [Option.bind_some]
    unfold lp
    cases isLeap y <;> rfl
  · rw [if_neg c2, if_neg c2]
theorem length_no (k : Nat) (hk : 1 ≤ k) (y m : Int) (h : ¬ ((1 ≤ y ∧ y ≤ 9999) ∧ (1 ≤ m ∧ m ≤ 12))) : date_Length.f k y m = some 0 := by
  obtain ⟨k, rfl⟩ : ∃ j, k = j + 1 := ⟨k - 1, by omega⟩
  have e : date_Length.j0 (k + 1) y m true = some 0 := by simp only [date_Length.j0, if_true]
  unfold date_Length.f
  by_cases c1 : y < 1
  · rw [if_pos c1, e]
  rw [if_neg c1]
  by_cases c2 : y > 9999
  · rw [if_pos c2, e]
  rw [if_neg c2]
  by_cases c3 : m < 1
  · rw [if_pos c3, e]
  rw [if_neg c3, decide_eq_true (by omega), e]
/-- Is there such a date? -/
def realDate (y m d : Int) : Prop := (1 ≤ y ∧ y ≤ 9999) ∧ (1 ≤ m ∧ m ≤ 12) ∧ (1 ≤ d ∧ d ≤ mlen y m)
instance (y m d : Int) : Decidable (realDate y m d) := by unfold realDate; infer_instance

theorem mul64_ok (a b : Int) (ha : 0 ≤ a ∧ a ≤ 18446744073709551615) (hb : 0 ≤ b ∧ b ≤ 18446744073709551615) : bits_Mul64.f a b = some (a * b / 18446744073709551616, a * b % 18446744073709551616) := by
  unfold bits_Mul64.f
  rw [and_mask32 a ha.1 (by omega), and_mask32 b hb.1 (by omega)]
  have h := mul_parts (a / 4294967296) (a % 4294967296) (b / 4294967296) (b % 4294967296) (by omega) (by omega) (by omega) (by omega)
  have ea : a / 4294967296 * 4294967296 + a % 4294967296 = a := by omega
  have eb : b / 4294967296 * 4294967296 + b % 4294967296 = b := by omega
  rw [ea, eb] at h
  have b2 : 0 ≤ a / 4294967296 * (b % 4294967296) ∧ a / 4294967296 * (b % 4294967296) ≤ 4294967295 * 4294967295 := ⟨Int.mul_nonneg (by omega) (by omega), Int.mul_le_mul (by omega) (by omega) (by omega) (by omega)⟩
  have b4 : 0 ≤ a % 4294967296 * (b % 4294967296) ∧ a % 4294967296 * (b % 4294967296) ≤ 4294967295 * 4294967295 := ⟨Int.mul_nonneg (by omega) (by omega), Int.mul_le_mul (by omega) (by omega) (by omega) (by omega)⟩
  have hm : Go.bits .and .u64 (IntKind.u64.wrap ((IntKind.u64.wrap ((a / 4294967296) * (b % 4294967296))) + ((IntKind.u64.wrap ((a % 4294967296) * (b % 4294967296))) / 4294967296))) 4294967295 = (IntKind.u64.wrap ((IntKind.u64.wrap ((a / 4294967296) * (b % 4294967296))) + ((IntKind.u64.wrap ((a % 4294967296) * (b % 4294967296))) / 4294967296))) % 4294967296 := by
    refine and_mask32 _ ?_ ?_ <;> rw [u64_wrap] <;> omega
  rw [hm, h, u64_wrap]
theorem mul_ok (a b : Int) (ha : 0 ≤ a ∧ a ≤ 18446744073709551615) (hb : 0 ≤ b ∧ b ≤ 18446744073709551615) : wide_Mul.f a b = some (a * b / 18446744073709551616, a * b % 18446744073709551616) := by
  unfold wide_Mul.f
  rw [mul64_ok a b ha hb]
  rfl
theorem zeros_ok (_k : Nat) (y : Int) (h0 : 0 < y) (h1 : y ≤ 18446744073709551615) :
    ∃ s : Nat, s ≤ 63 ∧ bits_LeadingZeros64.f y = some (s : Int) ∧ 9223372036854775808 ≤ y * 2 ^ s ∧ y * 2 ^ s < 18446744073709551616 := by
  obtain ⟨n, rfl⟩ := Int.eq_ofNat_of_zero_le (Int.le_of_lt h0)
  have hn : n < 2 ^ 64 := by have : (2 : Nat) ^ 64 = 18446744073709551616 := by decide
                             omega
  obtain ⟨b1, b2, b3⟩ := Go.Lib.bitLenAux_bounds 64 n hn (by omega)
  have b4 : Go.Lib.bitLenAux 64 n ≤ 64 := Go.Lib.bitLen_le n 64 (Nat.le_refl _) (by have : (2 : Nat) ^ 64 = 18446744073709551616 := by decide
                                                                                    omega)
  unfold bits_LeadingZeros64.f bits_Len64.f Go.Lib.bitLen
  rw [if_pos ⟨by omega, by omega⟩, Int.toNat_natCast]
  generalize Go.Lib.bitLenAux 64 n = L at b1 b2 b3 b4 ⊢
  refine ⟨64 - L, by omega, ?_, ?_, ?_⟩
  · simp only [Option.bind_some]
    refine congrArg some ?_
    unfold wrap64; omega
  · have e : (2 : Nat) ^ (L - 1) * 2 ^ (64 - L) = 9223372036854775808 := by
      rw [← Nat.pow_add, show L - 1 + (64 - L) = 63 by omega]
    have := Nat.mul_le_mul_right (2 ^ (64 - L)) b2
    rw [e] at this
    have h2 : ((2 : Int) ^ (64 - L)) = ((2 ^ (64 - L) : Nat) : Int) := by simp
    rw [h2, ← Int.natCast_mul]
    exact Int.ofNat_le.2 this
  · have e : (2 : Nat) ^ L * 2 ^ (64 - L) = 18446744073709551616 := by
      rw [← Nat.pow_add, show L + (64 - L) = 64 by omega]
    have := (Nat.mul_lt_mul_right (show 0 < 2 ^ (64 - L) from Nat.two_pow_pos _)).2 b3
    rw [e] at this
    have h2 : ((2 : Int) ^ (64 - L)) = ((2 ^ (64 - L) : Nat) : Int) := by simp
    rw [h2, ← Int.natCast_mul]
    exact Int.ofNat_lt.2 this
theorem digit2 {Y yn1 yn0 un21 un0 : Int} (s : Nat) (Q1 : Int) : ∀ (n k : Nat) (q rh : Int), Digit Y yn1 yn0 un21 un0 q rh → 4294967296 ≤ rh + n * 2147483648 → 2 * n + 4 < k →
    bits_Div64.l1 k Y (s : Int) yn1 yn0 un0 Q1 rh un21 q = some (IntKind.u64.wrap ((IntKind.u64.wrap (Q1 * 4294967296)) + (un21 * 4294967296 + un0) / Y), shr .u64 (IntKind.u64.wrap ((IntKind.u64.wrap ((IntKind.u64.wrap (un21 * 4294967296)) + un0)) - (IntKind.u64.wrap ((un21 * 4294967296 + un0) / Y * Y)))) (s : Int)) := by
  intro n
  induction n with
  | zero => intro k q rh d hn; have := d.hr0; omega
  | succ n ih =>
    intro k q rh d hn hk
    obtain ⟨k, rfl⟩ : ∃ m, k = m + 2 := ⟨k - 2, by omega⟩
    have h1 := d.h1; have hr0 := d.hr0; have hq := d.hq; have hf := d.fits
    have go : (un21 * 4294967296 + un0) / Y < q → bits_Div64.j4 (k + 1) Y (s : Int) yn1 yn0 un0 Q1 rh un21 q true = some (IntKind.u64.wrap ((IntKind.u64.wrap (Q1 * 4294967296)) + (un21 * 4294967296 + un0) / Y), shr .u64 (IntKind.u64.wrap ((IntKind.u64.wrap ((IntKind.u64.wrap (un21 * 4294967296)) + un0)) - (IntKind.u64.wrap ((un21 * 4294967296 + un0) / Y * Y)))) (s : Int)) := by
      intro hgt
      simp only [bits_Div64.j4, if_true]
      rw [u64_in (n := rh + yn1) (by omega) (by omega), u64_in (n := q - 1) (by omega) (by omega)]
      by_cases c : rh + yn1 ≥ 4294967296
      · rw [if_pos c, if_pos (by omega), d.last hgt c]
      · rw [if_neg c]
        exact ih k (q - 1) (rh + yn1) (d.less hgt (by omega)) (by omega) (by omega)
    have stop : ¬ (un21 * 4294967296 + un0) / Y < q → bits_Div64.j4 (k + 1) Y (s : Int) yn1 yn0 un0 Q1 rh un21 q false = some (IntKind.u64.wrap ((IntKind.u64.wrap (Q1 * 4294967296)) + (un21 * 4294967296 + un0) / Y), shr .u64 (IntKind.u64.wrap ((IntKind.u64.wrap ((IntKind.u64.wrap (un21 * 4294967296)) + un0)) - (IntKind.u64.wrap ((un21 * 4294967296 + un0) / Y * Y)))) (s : Int)) := by
      intro hle
      have e : q = (un21 * 4294967296 + un0) / Y := by omega
      simp only [bits_Div64.j4, Bool.false_eq_true, if_false]
      rw [if_pos (by omega), e]
    simp only [bits_Div64.l1]
    by_cases c1 : q ≥ 4294967296
    · rw [if_pos c1]; exact go (d.great c1)
    · rw [if_neg c1]
      by_cases c2 : (un21 * 4294967296 + un0) / Y < q
      · rw [decide_eq_true ((d.test (by omega)).2 c2)]; exact go c2
      · rw [decide_eq_false (fun h => c2 ((d.test (by omega)).1 h))]; exact stop c2
theorem digit1 {Y yn1 yn0 un32 un1 : Int} (s : Nat) (un0 : Int) : ∀ (n k : Nat) (q rh : Int), Digit Y yn1 yn0 un32 un1 q rh → 4294967296 ≤ rh + n * 2147483648 → 2 * n + 14 < k →
    ∃ k', 12 < k' ∧ bits_Div64.l0 k Y (s : Int) yn1 yn0 un32 un1 un0 q rh = bits_Div64.j2 k' Y (s : Int) yn1 yn0 un32 un1 un0 ((un32 * 4294967296 + un1) / Y) := by
  intro n
  induction n with
  | zero => intro k q rh d hn; have := d.hr0; omega
  | succ n ih =>
    intro k q rh d hn hk
    obtain ⟨k, rfl⟩ : ∃ m, k = m + 2 := ⟨k - 2, by omega⟩
    have h1 := d.h1; have hr0 := d.hr0; have hq := d.hq; have hf := d.fits
    have go : (un32 * 4294967296 + un1) / Y < q → ∃ k', 12 < k' ∧ bits_Div64.j1 (k + 1) Y (s : Int) yn1 yn0 un32 un1 un0 q rh true = bits_Div64.j2 k' Y (s : Int) yn1 yn0 un32 un1 un0 ((un32 * 4294967296 + un1) / Y) := by
      intro hgt
      simp only [bits_Div64.j1, if_true]
      rw [u64_in (n := rh + yn1) (by omega) (by omega), u64_in (n := q - 1) (by omega) (by omega)]
      by_cases c : rh + yn1 ≥ 4294967296
      · rw [if_pos c, d.last hgt c]
        exact ⟨k, by omega, rfl⟩
      · rw [if_neg c]
        exact ih k (q - 1) (rh + yn1) (d.less hgt (by omega)) (by omega) (by omega)
    have stop : ¬ (un32 * 4294967296 + un1) / Y < q → ∃ k', 12 < k' ∧ bits_Div64.j1 (k + 1) Y (s : Int) yn1 yn0 un32 un1 un0 q rh false = bits_Div64.j2 k' Y (s : Int) yn1 yn0 un32 un1 un0 ((un32 * 4294967296 + un1) / Y) := by
      intro hle
      have e : q = (un32 * 4294967296 + un1) / Y := by omega
      simp only [bits_Div64.j1, Bool.false_eq_true, if_false]
      rw [← e]
      exact ⟨k, by omega, rfl⟩
    simp only [bits_Div64.l0]
    by_cases c1 : q ≥ 4294967296
    · rw [if_pos c1]; exact go (d.great c1)
    · rw [if_neg c1]
      by_cases c2 : (un32 * 4294967296 + un1) / Y < q
      · rw [decide_eq_true ((d.test (by omega)).2 c2)]; exact go c2
      · rw [decide_eq_false (fun h => c2 ((d.test (by omega)).1 h))]; exact stop c2
theorem div64_ok (k : Nat) (hk : 30 ≤ k) (hi lo y : Int) (hhi : 0 ≤ hi ∧ hi < y) (hlo : 0 ≤ lo ∧ lo ≤ 18446744073709551615) (hy : y ≤ 18446744073709551615) :
    bits_Div64.f k hi lo y = some ((hi * 18446744073709551616 + lo) / y, (hi * 18446744073709551616 + lo) % y) := by
  unfold bits_Div64.f
  rw [if_neg (by omega), if_neg (by omega)]
  by_cases c0 : hi = 0
  · rw [if_pos c0, tdiv_nn hlo.1, tmod_nn hlo.1, c0]
    have hq0 : 0 ≤ lo / y := Int.ediv_nonneg hlo.1 (by omega)
    have hq1 : lo / y ≤ lo := Int.ediv_le_self y hlo.1
    rw [u64_in hq0 (by omega)]
    simp
  · rw [if_neg c0]
    obtain ⟨k, rfl⟩ : ∃ m, k = m + 1 := ⟨k - 1, by omega⟩
    obtain ⟨s, hs, e, l1, l2⟩ := zeros_ok k y (by omega) hy
    rw [e]
    simp only [Option.bind_some]
    have hw1 : IntKind.u64.wrap (s : Int) = (s : Int) := u64_in (by omega) (by omega)
    have hw2 : IntKind.u64.wrap (64 - (s : Int)) = ((64 - s : Nat) : Int) := by rw [u64_in (by omega) (by omega)]; omega
    rw [hw1, hw2, if_pos (by omega), if_pos (by omega)]
    obtain ⟨f1, f2, f3, f4, f5, f6, f7⟩ := shifted hs hhi ⟨hlo.1, by omega⟩ l2
    have hY : shl .u64 y (s : Int) = y * 2 ^ s := by rw [shl_eq y s hs]; exact Int.emod_eq_of_lt (by omega) l2
    rw [f1, f2, hY]
    have hP := two_pow_pos s
    generalize hYe : y * 2 ^ s = Y at *
    generalize hi * 2 ^ s + lo / 2 ^ (64 - s) = un32 at *
    generalize lo % 2 ^ (64 - s) * 2 ^ s = un10 at *
    rw [if_neg (by omega), and_mask32 Y (by omega) l2, and_mask32 un10 f5 f6, tdiv_nn f3]
    have d0 := Digit.start (Y := Y) (yn1 := Y / 4294967296) (yn0 := Y % 4294967296) (U := un32) (un1 := un10 / 4294967296) (by omega) (by omega) (by omega) ⟨f3, f4⟩ (by omega)
    have hq := d0.hq; have hr0 := d0.hr0
    have hz : 0 ≤ un32 / (Y / 4294967296) * (Y / 4294967296) := Int.mul_nonneg hq.2.1 (by omega)
    rw [u64_in hq.2.1 (by omega), u64_in hz (by omega), u64_in hr0.1 (by omega)]
    obtain ⟨k', hk', e1⟩ := digit1 s (un10 % 4294967296) 2 (k + 1) _ _ d0 (by omega) (by omega)
    rw [e1]
    have hYp := d0.pos
    have hf := d0.fits
    have hrest := digit_rest (un32 * 4294967296 + un10 / 4294967296) Y hYp
    obtain ⟨k', rfl⟩ : ∃ m, k' = m + 1 := ⟨k' - 1, by omega⟩
    simp only [bits_Div64.j2]
    rw [if_neg (by omega), rest_wrap _ _ _ _ hrest.1 (by omega)]
    generalize hQ1 : (un32 * 4294967296 + un10 / 4294967296) / Y = Q1 at *
    generalize hr1 : un32 * 4294967296 + un10 / 4294967296 - Q1 * Y = r1 at *
    rw [tdiv_nn hrest.1]
    have d2 := Digit.start (Y := Y) (yn1 := Y / 4294967296) (yn0 := Y % 4294967296) (U := r1) (un1 := un10 % 4294967296) (by omega) (by omega) (by omega) hrest (by omega)
    have hq2 := d2.hq; have hr2 := d2.hr0; have hf2 := d2.fits
    have hz2 : 0 ≤ r1 / (Y / 4294967296) * (Y / 4294967296) := Int.mul_nonneg hq2.2.1 (by omega)
    rw [u64_in hq2.2.1 (by omega), u64_in hz2 (by omega), u64_in hr2.1 (by omega)]
    rw [digit2 s Q1 2 k' _ _ d2 (by omega) (by omega)]
    have hrest2 := digit_rest (r1 * 4294967296 + un10 % 4294967296) Y hYp
    rw [rest_wrap _ _ _ _ hrest2.1 (by omega), shr_eq _ s (by omega), u64_in (n := Q1 * 4294967296) (by omega) (by omega), u64_in (by omega) (by omega)]
    obtain ⟨g1, g2⟩ := two_digits (T := hi * 18446744073709551616 + lo) (Y := Y) (un32 := un32) (un1 := un10 / 4294967296) (un0 := un10 % 4294967296) (P := 2 ^ s) (y := y) hP (by omega) hYe.symm (by rw [f7]; omega) (by omega) hQ1.symm hr1.symm rfl rfl
    rw [g1, g2]
theorem wdiv_ok (k : Nat) (hk : 30 ≤ k) (hi lo n : Int) (hhi : 0 ≤ hi ∧ hi ≤ 18446744073709551615) (hlo : 0 ≤ lo ∧ lo ≤ 18446744073709551615) (hn : 0 < n ∧ n ≤ 18446744073709551615) :
    wide_Wide_Div.f k hi lo n = some (hi / n, (hi % n * 18446744073709551616 + lo) / n, (hi % n * 18446744073709551616 + lo) % n, none) := by
  unfold wide_Wide_Div.f
  have m0 := Int.emod_nonneg hi (show n ≠ 0 by omega)
  have m1 := Int.emod_lt_of_pos hi hn.1
  rw [if_neg (by omega), tmod_nn hhi.1, tdiv_nn hhi.1, div64_ok k hk _ _ _ ⟨m0, m1⟩ hlo hn.2]
  simp only [Option.bind_some]
  have hq0 : 0 ≤ hi / n := Int.ediv_nonneg hhi.1 (by omega)
  have hq1 : hi / n ≤ hi := Int.ediv_le_self n hhi.1
  rw [u64_in hq0 (by omega)]
/-- The quotient of a number of two words. -/
theorem wide_quot (hi lo n : Int) (hn : 0 < n) : (hi * 18446744073709551616 + lo) / n = hi / n * 18446744073709551616 + (hi % n * 18446744073709551616 + lo) / n ∧ (hi * 18446744073709551616 + lo) % n = (hi % n * 18446744073709551616 + lo) % n := by
  have e := Int.mul_ediv_add_emod hi n
  have e2 : hi * 18446744073709551616 + lo = (hi % n * 18446744073709551616 + lo) + hi / n * 18446744073709551616 * n := by
    have : n * (hi / n) * 18446744073709551616 = hi / n * 18446744073709551616 * n := by ac_rfl
    omega
  constructor
  · rw [e2, Int.add_mul_ediv_right _ _ (by omega)]
    omega
  · rw [e2, Int.add_mul_emod_self_right]
theorem low_quot (hi lo n : Int) (hhi : 0 ≤ hi) (hlo : 0 ≤ lo ∧ lo ≤ 18446744073709551615) (hn : 0 < n) : 0 ≤ (hi % n * 18446744073709551616 + lo) / n ∧ (hi % n * 18446744073709551616 + lo) / n ≤ 18446744073709551615 := by
  have m0 := Int.emod_nonneg hi (show n ≠ 0 by omega)
  have m1 := Int.emod_lt_of_pos hi hn
  refine ⟨Int.ediv_nonneg (by omega) (by omega), ?_⟩
  have : (hi % n * 18446744073709551616 + lo) / n < 18446744073709551616 := Int.ediv_lt_of_lt_mul hn (by omega)
  omega
theorem prod_words (a b : Int) (ha : 0 ≤ a ∧ a ≤ 18446744073709551615) (hb : 0 ≤ b ∧ b ≤ 18446744073709551615) : 0 ≤ a * b / 18446744073709551616 ∧ a * b / 18446744073709551616 ≤ 18446744073709551614 ∧ 0 ≤ a * b % 18446744073709551616 ∧ a * b % 18446744073709551616 ≤ 18446744073709551615 ∧ 0 ≤ a * b := by
  have b1 : 0 ≤ a * b ∧ a * b ≤ 18446744073709551615 * 18446744073709551615 := ⟨Int.mul_nonneg ha.1 hb.1, Int.mul_le_mul ha.2 hb.2 hb.1 (by omega)⟩
  generalize a * b = p at *
  omega

theorem plus_eq (a b c d : Int) (ha : 0 ≤ a ∧ a ≤ 18446744073709551615) (hb : 0 ≤ b ∧ b ≤ 18446744073709551615) (hc : 0 ≤ c ∧ c ≤ 18446744073709551615) (hd : 0 ≤ d ∧ d ≤ 18446744073709551615) :
    wide_Wide_Plus.f a b c d = if a + c + (b + d) / 18446744073709551616 ≤ 18446744073709551615 then some (a + c + (b + d) / 18446744073709551616, (b + d) % 18446744073709551616, none) else some (0, 0, some 12) := by
  unfold wide_Wide_Plus.f
  rw [if_pos ⟨ha, hb, hc, hd⟩]
/-- By what all is divided: of a basis. -/
def unitOf (b : Int) : Int := if b = 2 then 360000000 else 365000000
/-- May all be? -/
def fitsAll (parts b p days carry : Int) : Prop := parts ≤ 1000000 ∧ (b = 1 ∨ b = 2) ∧ (0 ≤ p ∧ p ≤ 1000000000000) ∧ (0 ≤ days ∧ days ≤ 100000) ∧ carry < unitOf b
instance (parts b p days carry : Int) : Decidable (fitsAll parts b p days carry) := by unfold fitsAll; infer_instance
theorem rright_eq (parts b : Int) : yield_Rate_Right.f parts b = some (decide (parts ≤ 1000000 ∧ (b = 1 ∨ b = 2))) := by
  unfold yield_Rate_Right.f span_Year.f
  by_cases c : parts ≤ 1000000
  · rw [if_pos c]
    by_cases c1 : b = 1
    · rw [if_pos c1, decide_eq_true ⟨c, .inl c1⟩]; rfl
    · rw [if_neg c1]
      by_cases c2 : b = 2
      · rw [if_pos c2, decide_eq_true ⟨c, .inr c2⟩]; rfl
      · rw [if_neg c2, decide_eq_false (by omega)]; rfl
  · rw [if_neg c, decide_eq_false (by omega)]
theorem unit_eq (parts b : Int) (h : parts ≤ 1000000 ∧ (b = 1 ∨ b = 2)) : yield_Rate_Unit.f parts b = some (unitOf b) := by
  unfold yield_Rate_Unit.f unitOf
  rw [rright_eq, decide_eq_true h]
  simp only [Option.bind_some, if_true]
  unfold span_Year.f
  rcases h.2 with rfl | rfl
  · rw [if_pos rfl, if_neg (by decide)]
    simp only [Option.bind_some]
    rw [u64_in (n := 365) (by omega) (by omega), u64_in (by omega) (by omega)]
    rfl
  · rw [if_neg (by decide), if_pos rfl, if_pos rfl]
    simp only [Option.bind_some]
    rw [u64_in (n := 360) (by omega) (by omega), u64_in (by omega) (by omega)]
    rfl
theorem unitOf_bd (b : Int) : 360000000 ≤ unitOf b ∧ unitOf b ≤ 365000000 := by unfold unitOf; split <;> omega
theorem unit_no (parts b : Int) (h : ¬ (parts ≤ 1000000 ∧ (b = 1 ∨ b = 2))) : yield_Rate_Unit.f parts b = some 0 := by
  unfold yield_Rate_Unit.f
  rw [rright_eq, decide_eq_false h]
  rfl
theorem cright_eq (p : Int) : coin_Coin_Right.f p = some (decide (0 ≤ p ∧ p ≤ 1000000000000)) := by
  unfold coin_Coin_Right.f
  by_cases c : p ≥ 0
  · rw [if_pos c]
    refine congrArg some ?_
    rw [decide_eq_decide]; omega
  · rw [if_neg c, decide_eq_false (by omega)]
/-- What comes of so many days: the whole, and what is left. -/
def whole (parts b p days carry : Int) : Int := (p * (parts * days) + carry) / unitOf b
def rest (parts b p days carry : Int) : Int := (p * (parts * days) + carry) % unitOf b
theorem prod_bd (parts p days : Int) (h0 : 0 ≤ parts) (h1 : parts ≤ 1000000) (hp : 0 ≤ p ∧ p ≤ 1000000000000) (hd : 0 ≤ days ∧ days ≤ 100000) : 0 ≤ parts * days ∧ parts * days ≤ 100000000000 ∧ 0 ≤ p * (parts * days) ∧ p * (parts * days) ≤ 100000000000000000000000 := by
  have a0 : 0 ≤ parts * days := Int.mul_nonneg h0 hd.1
  have a1 : parts * days ≤ 1000000 * 100000 := Int.mul_le_mul h1 hd.2 hd.1 (by omega)
  have b0 : 0 ≤ p * (parts * days) := Int.mul_nonneg hp.1 a0
  have b1 : p * (parts * days) ≤ 1000000000000 * 100000000000 := Int.mul_le_mul hp.2 (by omega) a0 (by omega)
  omega
theorem whole_bd (parts b p days carry : Int) (h0 : 0 ≤ parts) (hc : 0 ≤ carry) (h : fitsAll parts b p days carry) : 0 ≤ whole parts b p days carry ∧ whole parts b p days carry ≤ 300000000000000 ∧ 0 ≤ rest parts b p days carry ∧ rest parts b p days carry < unitOf b := by
  obtain ⟨h1, h2, h3, h4, h5⟩ := h
  have hb := prod_bd parts p days h0 h1 h3 h4
  have hu := unitOf_bd b
  unfold whole rest
  refine ⟨Int.ediv_nonneg (by omega) (by omega), ?_, Int.emod_nonneg _ (by omega), Int.emod_lt_of_pos _ (by omega)⟩
  have : (p * (parts * days) + carry) / unitOf b < 300000000000001 := by
    refine Int.ediv_lt_of_lt_mul (by omega) ?_
    have : 300000000000001 * 360000000 ≤ 300000000000001 * unitOf b := Int.mul_le_mul_of_nonneg_left hu.1 (by omega)
    omega
  omega
theorem days_ok (k : Nat) (hk : 40 ≤ k) (parts b p days carry : Int) (h0 : 0 ≤ parts) (hc : 0 ≤ carry) (h : fitsAll parts b p days carry) :
    yield_Rate_Days.f k parts b p days carry = some (whole parts b p days carry, rest parts b p days carry, none) := by
  have hw := whole_bd parts b p days carry h0 hc h
  obtain ⟨h1, h2, h3, h4, h5⟩ := h
  obtain ⟨a0, a1, b0, b1⟩ := prod_bd parts p days h0 h1 h3 h4
  have hu := unitOf_bd b
  obtain ⟨k, rfl⟩ : ∃ j, k = j + 1 := ⟨k - 1, by omega⟩
  unfold yield_Rate_Days.f
  rw [rright_eq, decide_eq_true ⟨h1, h2⟩, cright_eq, decide_eq_true h3, unit_eq parts b ⟨h1, h2⟩]
  simp only [Option.bind_some, if_true]
  rw [if_neg (by omega), if_neg (by omega), decide_eq_false (by omega)]
  simp only [yield_Rate_Days.j0, Bool.false_eq_true, if_false]
  rw [u64_in (n := p) (by omega) (by omega), u64_in (n := parts) (by omega) (by omega), u64_in (n := days) (by omega) (by omega), u64_in (n := parts * days) (by omega) (by omega), mul_ok p (parts * days) (by omega) (by omega)]
  simp only [Option.bind_some]
  unfold wide_Wide_Add.f
  unfold whole rest at hw ⊢
  generalize hP : p * (parts * days) = P at *
  rw [plus_eq _ _ 0 carry (by omega) (by omega) (by omega) (by omega), if_pos (by omega)]
  simp only [Option.bind_some, Option.isNone_none, if_true]
  rw [unit_eq parts b ⟨h1, h2⟩]
  simp only [Option.bind_some]
  have e : (P / 18446744073709551616 + 0 + (P % 18446744073709551616 + carry) / 18446744073709551616) * 18446744073709551616 + (P % 18446744073709551616 + carry) % 18446744073709551616 = P + carry := by omega
  have hhi : 0 ≤ P / 18446744073709551616 + 0 + (P % 18446744073709551616 + carry) / 18446744073709551616 ∧ P / 18446744073709551616 + 0 + (P % 18446744073709551616 + carry) / 18446744073709551616 ≤ 100000 := by omega
  have hlo : 0 ≤ (P % 18446744073709551616 + carry) % 18446744073709551616 ∧ (P % 18446744073709551616 + carry) % 18446744073709551616 ≤ 18446744073709551615 := by omega
  generalize P / 18446744073709551616 + 0 + (P % 18446744073709551616 + carry) / 18446744073709551616 = hi at *
  generalize (P % 18446744073709551616 + carry) % 18446744073709551616 = lo at *
  rw [wdiv_ok k (by omega) hi lo (unitOf b) (by omega) hlo (by omega)]
  obtain ⟨q1, q2⟩ := wide_quot hi lo (unitOf b) (by omega)
  have ll := low_quot hi lo (unitOf b) hhi.1 hlo (by omega)
  rw [e] at q1 q2
  have z : hi / unitOf b = 0 := Int.ediv_eq_zero_of_lt hhi.1 (by omega)
  rw [q1, q2] at hw ⊢
  simp only [Option.bind_some, Option.isNone_none, if_true]
  unfold wide_Wide_Small.f
  rw [z] at hw ⊢
  simp only [Int.zero_mul, Int.zero_add, if_true, Option.bind_some] at hw ⊢
  generalize (hi % unitOf b * 18446744073709551616 + lo) / unitOf b = Q at *
  have : wrap64 Q = Q := by unfold wrap64; omega
  rw [this]
theorem days_bad (k : Nat) (hk : 2 ≤ k) (parts b p days carry : Int) (h : ¬ fitsAll parts b p days carry) : yield_Rate_Days.f k parts b p days carry = some (0, 0, some 1) := by
  obtain ⟨k, rfl⟩ : ∃ j, k = j + 1 := ⟨k - 1, by omega⟩
  have e : yield_Rate_Days.j0 (k + 1) p days carry true parts b = some (0, 0, some 1) := by simp only [yield_Rate_Days.j0, if_true]
  unfold yield_Rate_Days.f
  rw [rright_eq, cright_eq]
  simp only [Option.bind_some]
  by_cases c1 : parts ≤ 1000000 ∧ (b = 1 ∨ b = 2)
  · rw [decide_eq_true c1]
    simp only [if_true]
    by_cases c2 : 0 ≤ p ∧ p ≤ 1000000000000
    · rw [decide_eq_true c2]
      simp only [if_true]
      by_cases c3 : days < 0
      · rw [if_pos c3, e]
      rw [if_neg c3]
      by_cases c4 : days > 100000
      · rw [if_pos c4, e]
      rw [if_neg c4, unit_eq parts b c1]
      simp only [Option.bind_some]
      rw [decide_eq_true (show carry ≥ unitOf b from ?_), e]
      have : ¬ carry < unitOf b := fun hc => h ⟨c1.1, c1.2, c2, by omega, hc⟩
      omega
    · rw [decide_eq_false c2]
      simp only [Bool.false_eq_true, if_false]
      exact e
  · rw [decide_eq_false c1]
    simp only [Bool.false_eq_true, if_false]
    exact e
theorem lawright_yes (parts b p days carry : Int) (h : fitsAll parts b p days carry) : arrearslaw09_right.f parts b p days carry = some true := by
  obtain ⟨h1, h2, h3, h4, h5⟩ := h
  unfold arrearslaw09_right.f arrearslaw09_own.f arrearsref09_Unit.f
  rw [if_pos h1]
  rcases h2 with rfl | rfl
  · rw [if_pos rfl, if_pos (by omega), if_pos h3.2, if_pos (by omega), if_pos h4.2]
    exact congrArg some (decide_eq_true h5)
  · rw [if_neg (by decide), if_pos rfl, if_pos (by omega), if_pos h3.2, if_pos (by omega), if_pos h4.2]
    exact congrArg some (decide_eq_true h5)
theorem lawright_no (parts b p days carry : Int) (h : ¬ fitsAll parts b p days carry) : arrearslaw09_right.f parts b p days carry = some false := by
  unfold arrearslaw09_right.f arrearslaw09_own.f arrearsref09_Unit.f
  by_cases c1 : parts ≤ 1000000
  · rw [if_pos c1]
    by_cases c2 : b = 1
    · subst c2
      rw [if_pos rfl]
      by_cases c3 : p ≥ 0
      · rw [if_pos c3]
        by_cases c4 : p ≤ 1000000000000
        · rw [if_pos c4]
          by_cases c5 : days ≥ 0
          · rw [if_pos c5]
            by_cases c6 : days ≤ 100000
            · rw [if_pos c6]
              exact congrArg some (decide_eq_false fun hc => h ⟨c1, .inl rfl, ⟨c3, c4⟩, ⟨c5, c6⟩, hc⟩)
            · rw [if_neg c6]
          · rw [if_neg c5]
        · rw [if_neg c4]
      · rw [if_neg c3]
    · rw [if_neg c2]
      by_cases c2' : b = 2
      · subst c2'
        rw [if_pos rfl]
        by_cases c3 : p ≥ 0
        · rw [if_pos c3]
          by_cases c4 : p ≤ 1000000000000
          · rw [if_pos c4]
            by_cases c5 : days ≥ 0
            · rw [if_pos c5]
              by_cases c6 : days ≤ 100000
              · rw [if_pos c6]
                exact congrArg some (decide_eq_false fun hc => h ⟨c1, .inr rfl, ⟨c3, c4⟩, ⟨c5, c6⟩, hc⟩)
              · rw [if_neg c6]
            · rw [if_neg c5]
          · rw [if_neg c4]
        · rw [if_neg c3]
      · rw [if_neg c2']
  · rw [if_neg c1]
theorem lawright_eq (parts b p days carry : Int) : arrearslaw09_right.f parts b p days carry = some (decide (fitsAll parts b p days carry)) := by
  by_cases h : fitsAll parts b p days carry
  · rw [lawright_yes _ _ _ _ _ h, decide_eq_true h]
  · rw [lawright_no _ _ _ _ _ h, decide_eq_false h]
theorem awake_yes (k : Nat) (hk : 40 ≤ k) : arrearslaw09_awake.f k = some true := by
  unfold arrearslaw09_awake.f
  rw [days_ok k hk 365000 1 10000 1 0 (by omega) (by omega) (by decide)]
  decide +kernel
/-- What is carried on adds up. -/
theorem adds_up (parts b p d1 d2 carry : Int) : whole parts b p (d1 + d2) carry = whole parts b p d1 carry + whole parts b p d2 (rest parts b p d1 carry) ∧ rest parts b p (d1 + d2) carry = rest parts b p d2 (rest parts b p d1 carry) := by
  have hu := unitOf_bd b
  unfold whole rest
  have e : p * (parts * (d1 + d2)) + carry = p * (parts * d2) + (p * (parts * d1) + carry) := by
    rw [Int.mul_add, Int.mul_add]; omega
  rw [e]
  generalize p * (parts * d1) + carry = T
  generalize p * (parts * d2) = S
  have h := Int.mul_ediv_add_emod T (unitOf b)
  have e2 : S + T = S + T % unitOf b + T / unitOf b * unitOf b := by
    rw [Int.mul_comm (T / unitOf b)]; omega
  constructor
  · rw [e2, Int.add_mul_ediv_right _ _ (by omega)]; omega
  · rw [e2, Int.add_mul_emod_self_right]
theorem wm16 (x : Int) (h : 0 ≤ x ∧ x ≤ 65535) : wrap64 x = x := by unfold wrap64; omega

section
open Go.Proofs.YtldicnmpegkicaaDoor.M
theorem dg_low (v : Nat) : ((dg v 3 * 65536 + dg v 2) * 65536 + dg v 1) * 65536 + dg v 0 = v % 18446744073709551616 := by
  unfold dg
  simp only [Nat.reducePow, Nat.div_one]
  omega
theorem dg_high (v : Nat) (hv : v < 2 ^ 128) : ((dg v 7 * 65536 + dg v 6) * 65536 + dg v 5) * 65536 + dg v 4 = v / 18446744073709551616 := by
  unfold dg
  simp only [Nat.reducePow] at *
  omega
theorem dg_bd (v k : Nat) : 0 ≤ ((dg v k : Nat) : Int) ∧ ((dg v k : Nat) : Int) ≤ 65535 := by
  have := dg_lt v k
  omega
theorem num8_of (v : Nat) (hv : v < 2 ^ 128) : num8 (dg v 0 : Nat) (dg v 1 : Nat) (dg v 2 : Nat) (dg v 3 : Nat) (dg v 4 : Nat) (dg v 5 : Nat) (dg v 6 : Nat) (dg v 7 : Nat) = v := by
  have h1 := dg_low v
  have h2 := dg_high v hv
  unfold num8
  generalize dg v 0 = d0, dg v 1 = d1, dg v 2 = d2, dg v 3 = d3, dg v 4 = d4, dg v 5 = d5, dg v 6 = d6, dg v 7 = d7 at *
  have h3 := Nat.div_add_mod v 18446744073709551616
  rw [← h1, ← h2] at h3
  omega
theorem refword_f (v : Nat) (hv : v < 2 ^ 128) (u : Bool) : arrearsref03_Word.f (dg v 0 : Nat) (dg v 1 : Nat) (dg v 2 : Nat) (dg v 3 : Nat) (dg v 4 : Nat) (dg v 5 : Nat) (dg v 6 : Nat) (dg v 7 : Nat) u = some (if u = true then ((v / 18446744073709551616 : Nat) : Int) else ((v % 18446744073709551616 : Nat) : Int)) := by
  unfold arrearsref03_Word.f
  rw [if_pos ⟨dg_bd v 0, dg_bd v 1, dg_bd v 2, dg_bd v 3, dg_bd v 4, dg_bd v 5, dg_bd v 6, dg_bd v 7⟩]
  cases u
  · rw [if_neg Bool.false_ne_true, if_neg Bool.false_ne_true, ← dg_low v]; simp
  · rw [if_pos rfl, if_pos rfl, ← dg_high v hv]; simp
theorem refdiv_f (v n : Nat) (hv : v < 2 ^ 128) (hn : 0 < n) (hn2 : n < 18446744073709551616) : arrearsref03_Div.f (dg v 0 : Nat) (dg v 1 : Nat) (dg v 2 : Nat) (dg v 3 : Nat) (dg v 4 : Nat) (dg v 5 : Nat) (dg v 6 : Nat) (dg v 7 : Nat) n = some (((dg (v / n) 0 : Nat) : Int), ((dg (v / n) 1 : Nat) : Int), ((dg (v / n) 2 : Nat) : Int), ((dg (v / n) 3 : Nat) : Int), ((dg (v / n) 4 : Nat) : Int), ((dg (v / n) 5 : Nat) : Int), ((dg (v / n) 6 : Nat) : Int), ((dg (v / n) 7 : Nat) : Int), ((v % n : Nat) : Int)) := by
  unfold arrearsref03_Div.f
  rw [if_pos ⟨dg_bd v 0, dg_bd v 1, dg_bd v 2, dg_bd v 3, dg_bd v 4, dg_bd v 5, dg_bd v 6, dg_bd v 7, by omega, by omega⟩, num8_of v hv, Int.toNat_natCast]
theorem refmul_f (a b : Nat) (ha : a < 18446744073709551616) (hb : b < 18446744073709551616) : arrearsref03_Mul.f a b = some (((dg (a * b) 0 : Nat) : Int), ((dg (a * b) 1 : Nat) : Int), ((dg (a * b) 2 : Nat) : Int), ((dg (a * b) 3 : Nat) : Int), ((dg (a * b) 4 : Nat) : Int), ((dg (a * b) 5 : Nat) : Int), ((dg (a * b) 6 : Nat) : Int), ((dg (a * b) 7 : Nat) : Int)) := by
  unfold arrearsref03_Mul.f
  rw [if_pos (by omega), Int.toNat_natCast, Int.toNat_natCast]
theorem prod_lt (a b : Nat) (ha : a < 18446744073709551616) (hb : b < 18446744073709551616) : a * b < 2 ^ 128 := by
  have h := Nat.mul_le_mul (Nat.le_of_lt_succ ha) (Nat.le_of_lt_succ hb)
  exact Nat.lt_of_le_of_lt h (by decide)
end

section
open Go.Proofs.YtldicnmpegkicaaDoor.M
theorem dg_sum (u : Nat) (hu : u < 2 ^ 128) : u = dg u 0 + 65536 * (dg u 1 + 65536 * (dg u 2 + 65536 * (dg u 3 + 65536 * (dg u 4 + 65536 * (dg u 5 + 65536 * (dg u 6 + 65536 * dg u 7)))))) := by
  have h1 := dg_low u
  have h2 := dg_high u hu
  have h3 := Nat.div_add_mod u 18446744073709551616
  rw [← h1, ← h2] at h3
  omega
def sum9 (u v : Nat) : Nat → Nat := fun k => if k < 8 then dg u k + dg v k else 0
theorem V9_dg (u v : Nat) (hu : u < 2 ^ 128) (hv : v < 2 ^ 128) : V9 (sum9 u v) = u + v := by
  have h1 := dg_sum u hu
  have h2 := dg_sum v hv
  unfold V9 sum9
  simp only [Nat.reduceLT, if_true, if_false, Nat.lt_irrefl]
  generalize dg u 0 = a0, dg u 1 = a1, dg u 2 = a2, dg u 3 = a3, dg u 4 = a4, dg u 5 = a5, dg u 6 = a6, dg u 7 = a7 at *
  generalize dg v 0 = b0, dg v 1 = b1, dg v 2 = b2, dg v 3 = b3, dg v 4 = b4, dg v 5 = b5, dg v 6 = b6, dg v 7 = b7 at *
  omega
theorem cy8 (S : Nat → Nat) : V9 S / 65536 ^ 8 = S 8 + cy S 8 := by
  have s : ∀ x y k, (x + 65536 * y) / 65536 ^ (k + 1) = (x / 65536 + y) / 65536 ^ k := by
    intro x y k
    rw [Nat.pow_succ, Nat.mul_comm (65536 ^ k), ← Nat.div_div_eq_div_mul, show (x + 65536 * y) / 65536 = x / 65536 + y by omega]
  have a : ∀ c x y, c + (x + 65536 * y) = (x + c) + 65536 * y := by intros; omega
  unfold V9
  simp only [s, a, cy, Nat.add_zero, Nat.pow_zero, Nat.div_one]
  exact Nat.add_comm _ _
theorem refadd_f (u v : Nat) (hu : u < 2 ^ 128) (hv : v < 2 ^ 128) :
    arrearsref03_Add.f (dg u 0 : Nat) (dg u 1 : Nat) (dg u 2 : Nat) (dg u 3 : Nat) (dg u 4 : Nat) (dg u 5 : Nat) (dg u 6 : Nat) (dg u 7 : Nat) (dg v 0 : Nat) (dg v 1 : Nat) (dg v 2 : Nat) (dg v 3 : Nat) (dg v 4 : Nat) (dg v 5 : Nat) (dg v 6 : Nat) (dg v 7 : Nat)
      = some (((dg (u + v) 0 : Nat) : Int), ((dg (u + v) 1 : Nat) : Int), ((dg (u + v) 2 : Nat) : Int), ((dg (u + v) 3 : Nat) : Int), ((dg (u + v) 4 : Nat) : Int), ((dg (u + v) 5 : Nat) : Int), ((dg (u + v) 6 : Nat) : Int), ((dg (u + v) 7 : Nat) : Int), decide (u + v < 2 ^ 128)) := by
  have e := V9_dg u v hu hv
  have d0 := dg_cy (sum9 u v) 0 (by decide)
  have d1 := dg_cy (sum9 u v) 1 (by decide)
  have d2 := dg_cy (sum9 u v) 2 (by decide)
  have d3 := dg_cy (sum9 u v) 3 (by decide)
  have d4 := dg_cy (sum9 u v) 4 (by decide)
  have d5 := dg_cy (sum9 u v) 5 (by decide)
  have d6 := dg_cy (sum9 u v) 6 (by decide)
  have d7 := dg_cy (sum9 u v) 7 (by decide)
  have d8 := cy8 (sum9 u v)
  have ht : decide (u + v < 2 ^ 128) = (((cy (sum9 u v) 8 : Nat) : Int) == 0) := by
    rw [e, show sum9 u v 8 = 0 from rfl, Nat.zero_add] at d8
    rw [← d8, show ((65536 : Nat) ^ 8) = 2 ^ 128 from by decide]
    have q := Nat.div_eq_zero_iff (a := u + v) (b := 2 ^ 128)
    by_cases c : u + v < 2 ^ 128
    · rw [decide_eq_true c, Nat.div_eq_of_lt c]; rfl
    · rw [decide_eq_false c]
      have : 0 < (u + v) / 2 ^ 128 := Nat.div_pos (Nat.le_of_not_lt c) (by decide)
      symm
      rw [beq_eq_false_iff_ne]
      omega
  rw [e] at d0 d1 d2 d3 d4 d5 d6 d7
  unfold arrearsref03_Add.f
  rw [if_pos ⟨dg_bd u 0, dg_bd u 1, dg_bd u 2, dg_bd u 3, dg_bd u 4, dg_bd u 5, dg_bd u 6, dg_bd u 7, dg_bd v 0, dg_bd v 1, dg_bd v 2, dg_bd v 3, dg_bd v 4, dg_bd v 5, dg_bd v 6, dg_bd v 7⟩, ht, d0, d1, d2, d3, d4, d5, d6, d7]
  simp only [sum9, cy, Nat.reduceLT, if_true, Nat.add_zero, Int.natCast_emod, Int.natCast_add, Int.natCast_ediv, Int.cast_ofNat_Int, Int.natCast_zero, Int.add_zero]
theorem refof_f (hi lo : Nat) (h : hi < 18446744073709551616) (l : lo < 18446744073709551616) :
    arrearsref03_Of.f hi lo = some (((dg (hi * 18446744073709551616 + lo) 0 : Nat) : Int), ((dg (hi * 18446744073709551616 + lo) 1 : Nat) : Int), ((dg (hi * 18446744073709551616 + lo) 2 : Nat) : Int), ((dg (hi * 18446744073709551616 + lo) 3 : Nat) : Int), ((dg (hi * 18446744073709551616 + lo) 4 : Nat) : Int), ((dg (hi * 18446744073709551616 + lo) 5 : Nat) : Int), ((dg (hi * 18446744073709551616 + lo) 6 : Nat) : Int), ((dg (hi * 18446744073709551616 + lo) 7 : Nat) : Int)) := by
  unfold arrearsref03_Of.f
  rw [if_pos (by omega)]
  simp only [dg, Option.some.injEq, Prod.mk.injEq, Nat.reducePow, Nat.div_one]
  refine ⟨?_, ?_, ?_, ?_, ?_, ?_, ?_, ?_⟩ <;> omega
end

theorem refunit (parts : Int) (b : Int) : arrearsref09_Unit.f parts (b == 2) = some (unitOf b) := by
  unfold arrearsref09_Unit.f unitOf
  by_cases c : b = 2
  · subst c; rfl
  · rw [if_neg (by simpa using c), if_neg c]
/-- The reference's interest of so many days. -/
theorem refdays_ok (parts b p days carry : Int) (h0 : 0 ≤ parts) (hc : 0 ≤ carry) (h : fitsAll parts b p days carry) :
    arrearsref09_Days.f parts (b == 2) p days carry = some (whole parts b p days carry, rest parts b p days carry) := by
  have hw := whole_bd parts b p days carry h0 hc h
  have hu := unitOf_bd b
  obtain ⟨h1, h2, h3, h4, h5⟩ := h
  obtain ⟨a0, a1, b0, b1⟩ := prod_bd parts p days h0 h1 h3 h4
  unfold arrearsref09_Days.f
  rw [u64_in (n := p) (by omega) (by omega), u64_in (n := parts) (by omega) (by omega), u64_in (n := days) (by omega) (by omega), u64_in (n := parts * days) (by omega) (by omega)]
  unfold whole rest at hw ⊢
  generalize parts * days = Q at *
  obtain ⟨x, rfl⟩ := Int.eq_ofNat_of_zero_le h3.1
  obtain ⟨y, rfl⟩ := Int.eq_ofNat_of_zero_le a0
  obtain ⟨c, rfl⟩ := Int.eq_ofNat_of_zero_le hc
  obtain ⟨n, hn⟩ := Int.eq_ofNat_of_zero_le (show 0 ≤ unitOf b by omega)
  rw [← Int.natCast_mul] at b1 b0 hw ⊢
  rw [refmul_f x y (by omega) (by omega), refunit]
  have hof := refof_f 0 c (by decide) (by omega)
  rw [Nat.zero_mul, Nat.zero_add] at hof
  rw [show ((0 : Nat) : Int) = 0 from rfl] at hof
  rw [hof]
  simp only [Option.bind_some]
  have hxy : x * y < 2 ^ 128 := prod_lt x y (by omega) (by omega)
  rw [refadd_f (x * y) c hxy (by omega)]
  simp only [Option.bind_some]
  have hs : x * y + c < 2 ^ 128 := by omega
  rw [hn] at hw hu ⊢
  rw [refdiv_f (x * y + c) n hs (by omega) (by omega)]
  simp only [Option.bind_some]
  rw [refword_f _ (Nat.lt_of_le_of_lt (Nat.div_le_self _ _) hs) false]
  simp only [Option.bind_some, Bool.false_eq_true, if_false]
  rw [show ((x * y : Nat) : Int) + (c : Int) = ((x * y + c : Nat) : Int) from (Int.natCast_add _ _).symm] at hw ⊢
  generalize x * y + c = T at *
  rw [show ((T : Int) / (n : Int)) = ((T / n : Nat) : Int) from (Int.natCast_ediv _ _).symm] at hw ⊢
  rw [show ((T : Int) % (n : Int)) = ((T % n : Nat) : Int) from (Int.natCast_emod _ _).symm] at hw ⊢
  generalize T / n = Q2 at *
  rw [show ((Q2 % 18446744073709551616 : Nat) : Int) = Q2 by omega, show wrap64 (Q2 : Int) = Q2 by unfold wrap64; omega]


/-- Scale: a product by a number: its quotient, what is left; or its errors. -/
theorem scale_ok (k : Nat) (hk : 30 ≤ k) (a b c : Int) (ha : 0 ≤ a ∧ a ≤ 18446744073709551615) (hb : 0 ≤ b ∧ b ≤ 18446744073709551615) (hc : 0 ≤ c ∧ c ≤ 18446744073709551615) :
    wide_Scale.f k a b c = some (if c = 0 then (0, 0, some 1) else if a * b / c ≤ 18446744073709551615 then (a * b / c, a * b % c, none) else (0, 0, some 12)) := by
  unfold wide_Scale.f
  obtain ⟨p1, p2, p3, p4, p5⟩ := prod_words a b ha hb
  rw [mul_ok a b ha hb]
  simp only [Option.bind_some]
  by_cases c0 : c = 0
  · rw [if_pos c0]
    unfold wide_Wide_Div.f
    rw [if_pos c0]
    rfl
  · rw [if_neg c0, wdiv_ok k hk _ _ c ⟨p1, by omega⟩ ⟨p3, p4⟩ ⟨by omega, hc.2⟩]
    obtain ⟨q1, q2⟩ := wide_quot (a * b / 18446744073709551616) (a * b % 18446744073709551616) c (by omega)
    have l := low_quot (a * b / 18446744073709551616) (a * b % 18446744073709551616) c p1 ⟨p3, p4⟩ (by omega)
    rw [show a * b / 18446744073709551616 * 18446744073709551616 + a * b % 18446744073709551616 = a * b by omega] at q1 q2
    have h0 : 0 ≤ a * b / 18446744073709551616 / c := Int.ediv_nonneg p1 (by omega)
    rw [q1, q2]
    simp only [Option.bind_some, Option.isNone_none, if_true]
    unfold wide_Wide_Small.f
    generalize a * b / 18446744073709551616 / c = Q at *
    generalize (a * b / 18446744073709551616 % c * 18446744073709551616 + a * b % 18446744073709551616) / c = R at *
    by_cases c1 : Q = 0
    · subst c1
      rw [if_pos rfl, if_pos (by omega)]
      simp
    · rw [if_neg c1, if_neg (by omega)]
      rfl

theorem round_ok (k : Nat) (hk : 40 ≤ k) (a b : Int) (ha : 0 ≤ a ∧ a ≤ 18446744073709551615) (hb : 0 ≤ b ∧ b ≤ 18446744073709551615) (h0 : 0 ≤ a * b) (h : a * b ≤ 30000000000000000000) :
    wide_Round.f k a b 360000000 = some ((a * b * 2 + 360000000) / 720000000, none) := by
  obtain ⟨k, rfl⟩ : ∃ j, k = j + 1 := ⟨k - 1, by omega⟩
  unfold wide_Round.f
  rw [scale_ok (k + 1) (by omega) a b 360000000 ha hb (by omega), if_neg (by decide)]
  generalize a * b = T at *
  rw [if_pos (by omega), ← round_num T h0]
  simp only [Option.bind_some, Option.isNone_none, if_true]
  rw [u64_in (n := 360000000 - T % 360000000) (by omega) (by omega)]
  by_cases c : T % 360000000 < 360000000 - T % 360000000
  · rw [decide_eq_true c, if_pos c]
    simp only [wide_Round.j0, if_true]
  · rw [decide_eq_false c, if_neg c]
    simp only [wide_Round.j0, Bool.false_eq_true, if_false]
    rw [u64_in (n := T / 360000000 + 1) (by omega) (by omega), if_neg (by omega)]
theorem monthly_ok (k : Nat) (hk : 50 ≤ k) (P b x : Int) (hP : 0 ≤ P ∧ P ≤ 1000000) (hb : b = 1 ∨ b = 2) (hx : 0 ≤ x ∧ x ≤ 1000000000000) : yield_Rate_Month.f k P b x = some (itr P x, none) := by
  obtain ⟨k, rfl⟩ : ∃ j, k = j + 1 := ⟨k - 1, by omega⟩
  have hbd := itr_bd hP hx
  unfold yield_Rate_Month.f
  rw [rright_eq, decide_eq_true ⟨hP.2, hb⟩, cright_eq, decide_eq_true hx]
  simp only [Option.bind_some, if_true, Bool.not_true, yield_Rate_Month.j0, Bool.false_eq_true, if_false]
  unfold span_Year.f
  rw [if_neg (by decide), if_pos rfl]
  simp only [Option.bind_some]
  rw [u64_in (n := x) (by omega) (by omega), u64_in (n := P) (by omega) (by omega), u64_in (n := P * 30) (by omega) (by omega), u64_in (n := 360) (by omega) (by omega), u64_in (n := 1000000 * 360) (by omega) (by omega)]
  rw [show (1000000 * 360 : Int) = 360000000 by decide, round_ok k (by omega) x (P * 30) (by omega) (by omega) hbd.2.2.1 hbd.2.2.2]
  simp only [Option.bind_some]
  have e : (x * (P * 30) * 2 + 360000000) / 720000000 = itr P x := rfl
  rw [e]
  have w : wrap64 (itr P x) = itr P x := by unfold wrap64; omega
  rw [w]


section
open Go.Proofs.YtldicnmpegkicaaDoor.M
/-- The reference's Scale. -/
theorem refscale_ok (a b c : Int) (ha : 0 ≤ a ∧ a ≤ 18446744073709551615) (hb : 0 ≤ b ∧ b ≤ 18446744073709551615) (hc : 0 ≤ c ∧ c ≤ 18446744073709551615) :
    arrearsref03_Scale.f a b c = some (if c = 0 then (0, 0, 1) else if a * b / c ≤ 18446744073709551615 then (a * b / c, a * b % c, 0) else (0, 0, 12)) := by
  unfold arrearsref03_Scale.f
  by_cases c0 : c = 0
  · rw [if_pos c0, if_pos c0]
  · rw [if_neg c0, if_neg c0]
    obtain ⟨x, rfl⟩ := Int.eq_ofNat_of_zero_le ha.1
    obtain ⟨y, rfl⟩ := Int.eq_ofNat_of_zero_le hb.1
    obtain ⟨n, rfl⟩ := Int.eq_ofNat_of_zero_le hc.1
    have hx : x < 18446744073709551616 := by omega
    have hy : y < 18446744073709551616 := by omega
    have hp := prod_lt x y hx hy
    have hq : x * y / n < 2 ^ 128 := Nat.lt_of_le_of_lt (Nat.div_le_self _ _) hp
    rw [refmul_f x y hx hy]
    simp only [Option.bind_some]
    rw [refdiv_f (x * y) n hp (by omega) (by omega)]
    simp only [Option.bind_some]
    rw [refword_f _ hq true, refword_f _ hq false]
    simp only [Option.bind_some, if_true, Bool.false_eq_true, if_false]
    rw [show ((x : Int) * y / n) = ((x * y / n : Nat) : Int) by rw [Int.natCast_ediv, Int.natCast_mul], show ((x : Int) * y % n) = ((x * y % n : Nat) : Int) by rw [Int.natCast_emod, Int.natCast_mul]]
    generalize x * y / n = q
    by_cases c1 : (q : Int) ≤ 18446744073709551615
    · rw [if_neg (by omega), if_pos c1, show ((q % 18446744073709551616 : Nat) : Int) = q by omega]
    · rw [if_pos (by omega), if_neg c1]
end

theorem refmonth_ok (P x : Int) (t : Bool) (hP : 0 ≤ P ∧ P ≤ 1000000) (hx : 0 ≤ x ∧ x ≤ 1000000000000) : arrearsref09_Month.f P t x = some (itr P x) := by
  have hb := itr_bd hP hx
  have e : x * (P * 30) = x * P * 30 := by rw [Int.mul_assoc]
  unfold arrearsref09_Month.f
  rw [u64_in (n := x) (by omega) (by omega), u64_in (n := P) (by omega) (by omega), refscale_ok x P 12000000 (by omega) (by omega) (by decide), if_neg (by decide)]
  unfold itr at *
  rw [e] at hb ⊢
  generalize x * P = T at *
  rw [if_pos (by omega)]
  simp only [Option.bind_some]
  by_cases c : T % 12000000 ≥ 6000000
  · rw [if_pos c, u64_in (by omega) (by omega)]
    refine congrArg some ?_
    unfold wrap64
    omega
  · rw [if_neg c]
    refine congrArg some ?_
    unfold wrap64
    omega



theorem begins_eq (y : Int) (h1 : 1 ≤ y) (h2 : y ≤ 10002) : date_begins.f y = some (dby y) := by
  unfold date_begins.f dby
  rw [w64_ (y - 1) (by omega) (by omega), tdiv0 (by omega), tdiv0 (by omega), tdiv0 (by omega), w64_ ((y - 1) * 365) (by omega) (by omega), w64_ ((y - 1) / 4) (by omega) (by omega), w64_ ((y - 1) / 100) (by omega) (by omega), w64_ ((y - 1) / 400) (by omega) (by omega),
    w64_ ((y - 1) * 365 + (y - 1) / 4) (by omega) (by omega), w64_ ((y - 1) * 365 + (y - 1) / 4 - (y - 1) / 100) (by omega) (by omega), w64_ _ (by omega) (by omega)]
  refine congrArg some ?_
  omega

theorem civil_l2 (n y : Int) (hn : 0 ≤ n ∧ n ≤ 3652058) (hy : 1 ≤ y ∧ y ≤ 9999) (hb : dby y ≤ n) (he : n < dby (y + 1)) :
    ∀ (j k : Nat) (m : Int), 13 - m = j → j + 4 < k → 1 ≤ m ∧ m ≤ 12 → cum y m ≤ n - dby y →
      ∃ m' d', date_Day_Civil.l2 k y (mlen y m) y m (n - dby y - cum y m + 1) = some (y, m', d', none) ∧ IsDate n y m' d' := by
  intro j
  induction j with
  | zero => intro k m hm _ hm2; omega
  | succ j ih =>
    intro k m hm hk hm2 hc
    obtain ⟨k, rfl⟩ : ∃ i, k = i + 1 := ⟨k - 1, by omega⟩
    have hbd := mlen_bd y m
    have hcs := cum_succ y m hm2.1 hm2.2
    have hcb := cum_bd y m hm2.1 (by omega)
    simp only [date_Day_Civil.l2]
    by_cases c : n - dby y - cum y m + 1 > mlen y m
    · rw [if_pos c]
      have hm3 : m < 12 := by
        by_cases h : m < 12
        · exact h
        · obtain rfl : m = 12 := by omega
          rw [show (12 : Int) + 1 = 13 by omega, cum_end] at hcs
          have := dby_succ y hy.1
          omega
      have hdb := dby_bd y hy.1 (by omega)
      rw [w64_ (m + 1) (by omega) (by omega), w64_ _ (by omega) (by omega), length_eq k (by omega) y (m + 1) hy (by omega)]
      simp only [Option.bind_some]
      rw [show n - dby y - cum y m + 1 - mlen y m = n - dby y - cum y (m + 1) + 1 by omega]
      exact ih k (m + 1) (by omega) (by omega) (by omega) (by omega)
    · rw [if_neg c]
      exact ⟨m, _, rfl, dates_exist n hn.1 hn.2 hy hb he hm2 hc (by omega)⟩
theorem civil_l1 (n : Int) (hn : 0 ≤ n ∧ n ≤ 3652058) : ∀ (j k : Nat) (y : Int), 9999 - y = j → j + 30 < k → 1 ≤ y → dby y ≤ n →
    ∃ y' m' d', date_Day_Civil.l1 k n y = some (y', m', d', none) ∧ IsDate n y' m' d' := by
  intro j
  induction j with
  | zero =>
    intro k y hy hk h1 hb
    obtain ⟨k, rfl⟩ : ∃ i, k = i + 1 := ⟨k - 1, by omega⟩
    obtain rfl : y = 9999 := by omega
    have ht := dby_top
    simp only [date_Day_Civil.l1]
    rw [w64_ (9999 + 1) (by omega) (by omega), w64_ n (by omega) (by omega), begins_eq (9999 + 1) (by omega) (by omega), begins_eq 9999 (by omega) (by omega), length_eq k (by omega) 9999 1 (by omega) (by omega)]
    simp only [Option.bind_some]
    rw [if_neg (by rw [show (9999 : Int) + 1 = 10000 by omega]; omega)]
    have hdb := dby_bd 9999 (by omega) (by omega)
    rw [w64_ (n - dby 9999) (by omega) (by omega), w64_ (n - dby 9999 + 1) (by omega) (by omega)]
    obtain ⟨m', d', e, hd⟩ := civil_l2 n 9999 hn (by omega) hb (by rw [show (9999 : Int) + 1 = 10000 by omega]; omega) 12 k 1 (by omega) (by omega) (by omega) (by rw [cum_one]; omega)
    rw [cum_one, show n - dby 9999 - 0 + 1 = n - dby 9999 + 1 by omega] at e
    exact ⟨_, m', d', e, hd⟩
  | succ j ih =>
    intro k y hy hk h1 hb
    obtain ⟨k, rfl⟩ : ∃ i, k = i + 1 := ⟨k - 1, by omega⟩
    simp only [date_Day_Civil.l1]
    rw [w64_ (y + 1) (by omega) (by omega), w64_ n (by omega) (by omega), begins_eq (y + 1) (by omega) (by omega), begins_eq y (by omega) (by omega), length_eq k (by omega) y 1 (by omega) (by omega)]
    simp only [Option.bind_some]
    by_cases c : dby (y + 1) ≤ n
    · rw [if_pos c]
      exact ih k (y + 1) (by omega) (by omega) (by omega) c
    · rw [if_neg c]
      have hdb := dby_bd y (by omega) (by omega)
      rw [w64_ (n - dby y) (by omega) (by omega), w64_ (n - dby y + 1) (by omega) (by omega)]
      obtain ⟨m', d', e, hd⟩ := civil_l2 n y hn (by omega) hb (by omega) 12 k 1 (by omega) (by omega) (by omega) (by rw [cum_one]; omega)
      rw [cum_one, show n - dby y - 0 + 1 = n - dby y + 1 by omega] at e
      exact ⟨_, m', d', e, hd⟩
theorem civil_l0 (n : Int) (hn : 0 ≤ n ∧ n ≤ 3652058) : ∀ (j k : Nat) (y : Int), y - 1 = j → y ≤ 10000 → 10100 + j < k →
    ∃ y' m' d', date_Day_Civil.l0 k n y = some (y', m', d', none) ∧ IsDate n y' m' d' := by
  intro j
  induction j with
  | zero =>
    intro k y hy hy2 hk
    obtain ⟨k, rfl⟩ : ∃ i, k = i + 1 := ⟨k - 1, by omega⟩
    obtain rfl : y = 1 := by omega
    have e1 : dby 1 = 0 := by decide
    simp only [date_Day_Civil.l0]
    rw [w64_ n (by omega) (by omega), begins_eq 1 (by omega) (by omega)]
    simp only [Option.bind_some]
    rw [if_neg (by omega)]
    exact civil_l1 n hn 9998 k 1 (by omega) (by omega) (by omega) (by omega)
  | succ j ih =>
    intro k y hy hy2 hk
    obtain ⟨k, rfl⟩ : ∃ i, k = i + 1 := ⟨k - 1, by omega⟩
    simp only [date_Day_Civil.l0]
    rw [w64_ n (by omega) (by omega), begins_eq y (by omega) (by omega)]
    simp only [Option.bind_some]
    by_cases c : dby y > n
    · rw [if_pos c, w64_ (y - 1) (by omega) (by omega)]
      exact ih k (y - 1) (by omega) (by omega) (by omega)
    · rw [if_neg c]
      have hy3 : y ≤ 9999 := by
        by_cases h : 9999 < y
        · have := dby_mono (a := 10000) (b := y) (by omega) (by omega)
          rw [dby_top] at this
          omega
        · omega
      exact civil_l1 n hn (9999 - y).toNat k y (by omega) (by omega) (by omega) (by omega)
theorem civil_ok (n : Int) (hn : 0 ≤ n ∧ n ≤ 3652058) (k : Nat) (hk : 20200 ≤ k) : ∃ y m d, date_Day_Civil.f k n = some (y, m, d, none) ∧ IsDate n y m d := by
  unfold date_Day_Civil.f date_Day_Right.f
  rw [if_pos (by omega), decide_eq_true hn.2]
  simp only [Option.bind_some, if_true]
  rw [w64_ n (by omega) (by omega), w64_ (n * 400) (by omega) (by omega), tdiv0 (by omega), w64_ (n * 400 / 146097) (by omega) (by omega), w64_ _ (by omega) (by omega)]
  exact civil_l0 n hn (n * 400 / 146097 + 1 - 1).toNat k _ (by omega) (by omega) (by omega)
theorem civil_no (n : Int) (h : ¬ (0 ≤ n ∧ n ≤ 3652058)) (k : Nat) : date_Day_Civil.f k n = some (0, 0, 0, some 1) := by
  unfold date_Day_Civil.f date_Day_Right.f
  by_cases c : n ≥ 0
  · rw [if_pos c, decide_eq_false (by omega)]
    rfl
  · rw [if_neg c]
    rfl
theorem real_of {n y m d : Int} (h : IsDate n y m d) : realDate y m d := ⟨h.hy, h.hm, h.hd⟩

/-- Between two dates, as if each month had 30 days. -/
def th (y m d y' m' d' : Int) : Int := 360 * (y' - y) + 30 * (m' - m) + (if 30 ≤ d then (if d' ≤ 30 then d' else 30) else d') - (if d ≤ 30 then d else 30)
theorem year_1 : span_Year.f 1 = some 365 := rfl
theorem year_2 : span_Year.f 2 = some 360 := rfl
theorem year_eq (b : Int) : span_Year.f b = some (if b = 1 then 365 else if b = 2 then 360 else 0) := by
  unfold span_Year.f
  by_cases h1 : b = 1
  · rw [if_pos h1, if_pos h1]
  · rw [if_neg h1, if_neg h1]
    by_cases h2 : b = 2
    · rw [if_pos h2, if_pos h2]
    · rw [if_neg h2, if_neg h2]
theorem mn_eq (a b : Int) : mn a b = if a ≤ b then a else b := by unfold mn; (repeat' split) <;> omega
theorem thirty_eq (y m d y' m' d' : Int) (hy : 1 ≤ y ∧ y ≤ 9999) (hy' : 1 ≤ y' ∧ y' ≤ 9999) (hm : 1 ≤ m ∧ m ≤ 12) (hm' : 1 ≤ m' ∧ m' ≤ 12) (hd : 1 ≤ d ∧ d ≤ 31) (hd' : 1 ≤ d' ∧ d' ≤ 31) : span_thirty.f y m d y' m' d' = some (th y m d y' m' d') := by
  unfold span_thirty.f th
  rw [year_2, mn_eq, mn_eq]
  simp only [Option.bind_some]
  rw [w64_ (y' - y) (by omega) (by omega), w64_ (m' - m) (by omega) (by omega), w64_ (360 * (y' - y)) (by omega) (by omega), w64_ (30 * (m' - m)) (by omega) (by omega), w64_ (360 * (y' - y) + 30 * (m' - m)) (by omega) (by omega)]
  by_cases c : 30 ≤ d
  · rw [if_pos c]
    by_cases c2 : d ≤ 30
    · rw [if_pos c2, if_pos (by omega), w64_ (360 * (y' - y) + 30 * (m' - m) + (if d' ≤ 30 then d' else 30)) (by split <;> omega) (by split <;> omega), w64_ _ (by split <;> omega) (by split <;> omega)]
    · rw [if_neg c2, if_pos rfl, w64_ (360 * (y' - y) + 30 * (m' - m) + (if d' ≤ 30 then d' else 30)) (by split <;> omega) (by split <;> omega), w64_ _ (by split <;> omega) (by split <;> omega)]
  · rw [if_neg c, if_pos (show d ≤ 30 by omega), if_neg (by omega), w64_ (360 * (y' - y) + 30 * (m' - m) + d') (by omega) (by omega), w64_ _ (by omega) (by omega)]
theorem days_j0 (k : Nat) (hk : 1 ≤ k) (b n n' a1 a2 a3 b1 b2 b3 : Int) : span_Days.j0 k b n n' true a1 a2 a3 b1 b2 b3 = some (0, some 1) := by
  obtain ⟨k, rfl⟩ : ∃ j, k = j + 1 := ⟨k - 1, by omega⟩
  simp only [span_Days.j0, if_true]
theorem span_days_ok (k : Nat) (hk : 20210 ≤ k) (b n n' : Int) (hb : b = 1 ∨ b = 2) {y m d y' m' d' : Int} (h : IsDate n y m d) (h' : IsDate n' y' m' d') (hle : n ≤ n') :
    span_Days.f k b n n' = some (if b = 2 then th y m d y' m' d' else n' - n, none) := by
  obtain ⟨y1, m1, d1, e, hd⟩ := civil_ok n h.range k (by omega)
  obtain ⟨rfl, rfl, rfl⟩ := h.unique hd
  obtain ⟨y2, m2, d2, e', hd'⟩ := civil_ok n' h'.range k (by omega)
  obtain ⟨rfl, rfl, rfl⟩ := h'.unique hd'
  have r1 := h.range; have r2 := h'.range
  have g1 := h.hy; have g2 := h.hm; have g3 := h.hd; have g4 := mlen_bd y m
  have f1 := h'.hy; have f2 := h'.hm; have f3 := h'.hd; have f4 := mlen_bd y' m'
  unfold span_Days.f
  rw [e, e', year_eq]
  simp only [Option.bind_some, Option.isNone_none, if_true]
  obtain ⟨k, rfl⟩ : ∃ j, k = j + 1 := ⟨k - 1, by omega⟩
  rcases hb with rfl | rfl
  · rw [if_neg (show ¬ (if (1 : Int) = 1 then (365 : Int) else if (1 : Int) = 2 then 360 else 0) = 0 by decide), decide_eq_false (show ¬ n' < n by omega)]
    simp only [span_Days.j0, Bool.false_eq_true, if_false]
    rw [if_neg (by omega), if_neg (by omega)]
    have w : wrap32 (n' - n) = n' - n := by unfold wrap32; omega
    rw [w, w64_ _ (by omega) (by omega)]
  · rw [if_neg (show ¬ (if (2 : Int) = 1 then (365 : Int) else if (2 : Int) = 2 then 360 else 0) = 0 by decide), decide_eq_false (show ¬ n' < n by omega)]
    simp only [span_Days.j0, Bool.false_eq_true, if_false]
    simp only [if_true]
    rw [thirty_eq y m d y' m' d' g1 f1 g2 f2 (by omega) (by omega)]
    rfl
theorem days_no (k : Nat) (hk : 20210 ≤ k) (b n n' : Int) (h : ¬ ((b = 1 ∨ b = 2) ∧ (0 ≤ n ∧ n ≤ 3652058) ∧ (0 ≤ n' ∧ n' ≤ 3652058) ∧ n ≤ n')) : span_Days.f k b n n' = some (0, some 1) := by
  unfold span_Days.f
  by_cases c1 : 0 ≤ n ∧ n ≤ 3652058
  · obtain ⟨y, m, d, e, hd⟩ := civil_ok n c1 k (by omega)
    rw [e]
    by_cases c2 : 0 ≤ n' ∧ n' ≤ 3652058
    · obtain ⟨y', m', d', e', hd'⟩ := civil_ok n' c2 k (by omega)
      rw [e', year_eq]
      simp only [Option.bind_some, Option.isNone_none, if_true]
      by_cases c3 : b = 1 ∨ b = 2
      · have : ¬ (if b = 1 then (365 : Int) else if b = 2 then 360 else 0) = 0 := by
          rcases c3 with rfl | rfl <;> decide
        rw [if_neg this, decide_eq_true (by omega)]
        exact days_j0 k (by omega) _ _ _ _ _ _ _ _ _
      · rw [if_pos (by rw [if_neg (by omega), if_neg (by omega)])]
        exact days_j0 k (by omega) _ _ _ _ _ _ _ _ _
    · rw [civil_no n' c2]
      simp only [Option.bind_some, Option.isNone_none, if_true, Option.isNone_some, Bool.false_eq_true, if_false]
      exact days_j0 k (by omega) _ _ _ _ _ _ _ _ _
  · rw [civil_no n c1]
    by_cases c2 : 0 ≤ n' ∧ n' ≤ 3652058
    · obtain ⟨y', m', d', e', hd'⟩ := civil_ok n' c2 k (by omega)
      rw [e']
      simp only [Option.bind_some, Option.isNone_some, Bool.false_eq_true, if_false]
      exact days_j0 k (by omega) _ _ _ _ _ _ _ _ _
    · rw [civil_no n' c2]
      simp only [Option.bind_some, Option.isNone_some, Bool.false_eq_true, if_false]
      exact days_j0 k (by omega) _ _ _ _ _ _ _ _ _


/-- What a day adds, by months of 30 days. -/
def one2 (y m d : Int) : Int := if d < mlen y m then 1 else 31 - mlen y m
/-- From a month's first day to a date. -/
def upto (b from_ y0 m0 n y m d : Int) : Int := if b = 2 then 360 * (y - y0) + 30 * (m - m0) + d - 1 else n - from_
theorem th_first {y m y' m' d' : Int} : th y m 1 y' m' d' = 360 * (y' - y) + 30 * (m' - m) + d' - 1 := by
  unfold th
  rw [if_neg (by omega), if_pos (by omega)]
theorem first_of {n y m d : Int} (h : IsDate n y m d) : IsDate (n - (d - 1)) y m 1 := ⟨h.hy, h.hm, ⟨by omega, by have := mlen_bd y m; omega⟩, by have := h.hn; omega⟩
theorem next_of {n y m d : Int} (h : IsDate n y m d) (hn : n < 3652058) : ∃ y' m' d', IsDate (n + 1) y' m' d' ∧ ((360 * y' + 30 * m' + d') = 360 * y + 30 * m + d + one2 y m d) := by
  unfold one2
  by_cases c : d < mlen y m
  · exact ⟨_, _, _, h.next_day c, by rw [if_pos c]; omega⟩
  · have hd : d = mlen y m := by have := h.hd; omega
    by_cases cm : m < 12
    · exact ⟨_, _, _, h.next_month hd cm, by rw [if_neg c]; omega⟩
    · have hm : m = 12 := by have := h.hm; omega
      exact ⟨_, _, _, h.next_year hd hm hn, by rw [if_neg c]; omega⟩
theorem one_ok (k : Nat) (hk : 20210 ≤ k) (b n : Int) (hb : b = 1 ∨ b = 2) (hn : n < 3652058) {y m d : Int} (h : IsDate n y m d) : span_One.f k b n = some (if b = 2 then one2 y m d else 1, none) := by
  have r := h.range
  obtain ⟨y1, m1, d1, e, hd⟩ := civil_ok n r k (by omega)
  obtain ⟨rfl, rfl, rfl⟩ := h.unique hd
  obtain ⟨y', m', d', h', e'⟩ := next_of h hn
  have hf := first_of h
  have rf := hf.range
  have g3 := h.hd; have g4 := mlen_bd y m
  unfold span_One.f
  rw [if_neg (by omega), e]
  simp only [Option.bind_some, Option.isNone_none, if_true]
  have w1 : wrap32 (wrap64 (d - 1)) = d - 1 := by rw [w64_ (d - 1) (by omega) (by omega)]; unfold wrap32; omega
  have w2 : wrap32 (n - (d - 1)) = n - (d - 1) := by unfold wrap32; omega
  have w3 : wrap32 (n + 1) = n + 1 := by unfold wrap32; omega
  rw [w1, w2, w3, span_days_ok k hk b _ _ hb hf h (by omega), span_days_ok k hk b _ _ hb hf h' (by omega)]
  simp only [Option.bind_some, Option.isNone_none, if_true]
  rw [th_first, th_first]
  refine congrArg some (Prod.ext ?_ rfl)
  have o : -3 ≤ one2 y m d ∧ one2 y m d ≤ 3 := by unfold one2; split <;> omega
  show wrap64 _ = _
  rcases hb with rfl | rfl
  · rw [if_neg (by omega), if_neg (by omega), if_neg (by omega), w64_ _ (by omega) (by omega)]; omega
  · rw [if_pos rfl, if_pos rfl, if_pos rfl, w64_ _ (by omega) (by omega)]; omega
theorem one_no (k : Nat) (hk : 20210 ≤ k) (b n : Int) (hnb : -2147483648 ≤ n ∧ n ≤ 2147483647) (h : ¬ ((b = 1 ∨ b = 2) ∧ 0 ≤ n ∧ n < 3652058)) : span_One.f k b n = some (0, some 1) := by
  unfold span_One.f
  by_cases c : n ≥ 3652058
  · rw [if_pos c]
  rw [if_neg c]
  by_cases c0 : 0 ≤ n
  · obtain ⟨y, m, d, e, hd⟩ := civil_ok n (by omega) k (by omega)
    rw [e]
    simp only [Option.bind_some, Option.isNone_none, if_true]
    rw [days_no k hk b _ _ (fun q => h ⟨q.1, by omega⟩)]
    rfl
  · rw [civil_no n (by omega)]
    rfl
/-- One day further. -/
theorem upto_next {b from_ y0 m0 n y m d : Int} (hb : b = 1 ∨ b = 2) (h : IsDate n y m d) (hn : n < 3652058) : ∃ y' m' d', IsDate (n + 1) y' m' d' ∧ upto b from_ y0 m0 (n + 1) y' m' d' = upto b from_ y0 m0 n y m d + (if b = 2 then one2 y m d else 1) := by
  obtain ⟨y', m', d', h', e⟩ := next_of h hn
  refine ⟨y', m', d', h', ?_⟩
  unfold upto
  rcases hb with rfl | rfl
  · rw [if_neg (by omega), if_neg (by omega), if_neg (by omega)]; omega
  · rw [if_pos rfl, if_pos rfl, if_pos rfl]; omega
theorem upto_bd {b from_ y0 m0 n y m d : Int} (hb : b = 1 ∨ b = 2) (h : IsDate n y m d) (hf : 0 ≤ from_ ∧ from_ ≤ 3652058) (hy : 1 ≤ y0 ∧ y0 ≤ 9999) (hm : 1 ≤ m0 ∧ m0 ≤ 12) : -10000000 ≤ upto b from_ y0 m0 n y m d ∧ upto b from_ y0 m0 n y m d ≤ 10000000 := by
  have := h.hy; have := h.hm; have := h.hd; have := mlen_bd y m; have := h.range
  unfold upto
  rcases hb with rfl | rfl
  · rw [if_neg (by omega)]; omega
  · rw [if_pos rfl]; omega
theorem one2_bd (y m d : Int) : 0 ≤ one2 y m d ∧ one2 y m d ≤ 3 := by have := mlen_bd y m; unfold one2; split <;> omega


theorem refleap_eq (y : Int) (h1 : 1 ≤ y) (h2 : y ≤ 9999) : arrearsref05_Leap.f y = some (isLeap y) := by
  unfold arrearsref05_Leap.f isLeap
  rw [if_neg (by omega), if_neg (by omega), tmod0 (by omega), tmod0 (by omega), tmod0 (by omega)]
  by_cases c : y % 4 > 0
  · rw [if_pos c, decide_eq_false (by omega)]
  · rw [if_neg c]
    by_cases c1 : y % 100 > 0
    · rw [if_pos c1, decide_eq_true ⟨by omega, .inl (by omega)⟩]
    · rw [if_neg c1]
      refine congrArg some ?_
      rw [Bool.eq_iff_iff]
      simp
      omega
theorem reflength_eq (k : Nat) (hk : 1 ≤ k) (y m : Int) (hy : 1 ≤ y ∧ y ≤ 9999) (hm : 1 ≤ m ∧ m ≤ 12) : arrearsref05_Length.f k y m = some (mlen y m) := by
  obtain ⟨k, rfl⟩ : ∃ j, k = j + 1 := ⟨k - 1, by omega⟩
  unfold arrearsref05_Length.f
  rw [if_neg (by omega), if_neg (by omega), if_neg (by omega), decide_eq_false (by omega)]
  simp only [arrearsref05_Length.j0, Bool.false_eq_true, if_false, Option.bind_some]
  rw [w64_ (m - 1) (by omega) (by omega), if_pos (by omega), if_pos (by simp; omega), refleap_eq y hy.1 hy.2]
  simp only [Option.bind_some]
  have : m = 1 ∨ m = 2 ∨ m = 3 ∨ m = 4 ∨ m = 5 ∨ m = 6 ∨ m = 7 ∨ m = 8 ∨ m = 9 ∨ m = 10 ∨ m = 11 ∨ m = 12 := by omega
  rcases this with rfl | rfl | rfl | rfl | rfl | rfl | rfl | rfl | rfl | rfl | rfl | rfl
  case inr.inl =>
    rw [if_pos rfl]
    unfold mlen lp
    cases isLeap y <;> decide +kernel
  all_goals rfl
theorem reflength_no (k : Nat) (hk : 1 ≤ k) (y m : Int) (h : ¬ ((1 ≤ y ∧ y ≤ 9999) ∧ (1 ≤ m ∧ m ≤ 12))) : arrearsref05_Length.f k y m = some 0 := by
  obtain ⟨k, rfl⟩ : ∃ j, k = j + 1 := ⟨k - 1, by omega⟩
  have e : arrearsref05_Length.j0 (k + 1) y m true = some 0 := by simp only [arrearsref05_Length.j0, if_true]
  unfold arrearsref05_Length.f
  by_cases c1 : y < 1
  · rw [if_pos c1, e]
  rw [if_neg c1]
  by_cases c2 : y > 9999
  · rw [if_pos c2, e]
  rw [if_neg c2]
  by_cases c3 : m < 1
  · rw [if_pos c3, e]
  rw [if_neg c3, decide_eq_true (by omega), e]

theorem refcivil_l1 (n y : Int) (hn : 0 ≤ n ∧ n ≤ 3652058) (hy : 1 ≤ y ∧ y ≤ 9999) (hb : dby y ≤ n) (he : n < dby (y + 1)) :
    ∀ (j k : Nat) (m : Int), 13 - m = j → j + 4 < k → 1 ≤ m ∧ m ≤ 12 → cum y m ≤ n - dby y →
      ∃ m' d', arrearsref05_Civil.l1 k (n - dby y - cum y m) y m = some (y, m', d') ∧ IsDate n y m' d' := by
  intro j
  induction j with
  | zero => intro k m hm _ hm2; omega
  | succ j ih =>
    intro k m hm hk hm2 hc
    obtain ⟨k, rfl⟩ : ∃ i, k = i + 1 := ⟨k - 1, by omega⟩
    have hbd := mlen_bd y m
    have hcs := cum_succ y m hm2.1 hm2.2
    have hcb := cum_bd y m hm2.1 (by omega)
    have hdb := dby_bd y hy.1 (by omega)
    simp only [arrearsref05_Civil.l1]
    rw [reflength_eq k (by omega) y m hy hm2]
    simp only [Option.bind_some]
    by_cases c : n - dby y - cum y m ≥ mlen y m
    · rw [if_pos c]
      have hm3 : m < 12 := by
        by_cases h : m < 12
        · exact h
        · obtain rfl : m = 12 := by omega
          rw [show (12 : Int) + 1 = 13 by omega, cum_end] at hcs
          have := dby_succ y hy.1
          omega
      rw [w64_ (m + 1) (by omega) (by omega), w64_ _ (by omega) (by omega)]
      rw [show n - dby y - cum y m - mlen y m = n - dby y - cum y (m + 1) by omega]
      exact ih k (m + 1) (by omega) (by omega) (by omega) (by omega)
    · rw [if_neg c, w64_ _ (by omega) (by omega)]
      exact ⟨m, _, rfl, dates_exist n hn.1 hn.2 hy hb he hm2 hc (by omega)⟩
theorem refcivil_end (n y : Int) (k : Nat) (hk : 20 ≤ k) (hn : 0 ≤ n ∧ n ≤ 3652058) (hy : 1 ≤ y ∧ y ≤ 9999) (hb : dby y ≤ n) (he : n < dby (y + 1)) :
    ∃ m' d', arrearsref05_Civil.j1 k (n - dby y) y = some (y, m', d') ∧ IsDate n y m' d' := by
  obtain ⟨k, rfl⟩ : ∃ i, k = i + 1 := ⟨k - 1, by omega⟩
  simp only [arrearsref05_Civil.j1]
  have := refcivil_l1 n y hn hy hb he 12 k 1 (by omega) (by omega) (by omega) (by rw [cum_one]; omega)
  rw [cum_one, Int.sub_zero] at this
  exact this
theorem refcivil_l0 (n : Int) (hn : 0 ≤ n ∧ n ≤ 3652058) : ∀ (j k : Nat) (y : Int), 9999 - y = j → j + 30 < k → 1 ≤ y → dby y ≤ n →
    ∃ y' m' d', arrearsref05_Civil.l0 k (n - dby y) y = some (y', m', d') ∧ IsDate n y' m' d' := by
  intro j
  induction j with
  | zero =>
    intro k y hy hk h1 hb
    obtain ⟨k, rfl⟩ : ∃ i, k = i + 1 := ⟨k - 1, by omega⟩
    obtain rfl : y = 9999 := by omega
    have ht := dby_top
    have hs := dby_succ 9999 (by omega)
    have hlp : lp 9999 = 0 := by decide
    have hl9 : isLeap 9999 = false := by decide
    simp only [arrearsref05_Civil.l0]
    rw [refleap_eq 9999 (by omega) (by omega), hl9]
    simp only [Option.bind_some, Bool.false_eq_true, if_false]
    rw [show (9999 : Int) + 1 = 10000 by omega] at hs
    rw [if_pos (by omega)]
    obtain ⟨m', d', e, hd⟩ := refcivil_end n 9999 k (by omega) hn (by omega) hb (by rw [show (9999 : Int) + 1 = 10000 by omega]; omega)
    exact ⟨_, m', d', e, hd⟩
  | succ j ih =>
    intro k y hy hk h1 hb
    obtain ⟨k, rfl⟩ : ∃ i, k = i + 1 := ⟨k - 1, by omega⟩
    have hs := dby_succ y h1
    have hdb := dby_bd y h1 (by omega)
    simp only [arrearsref05_Civil.l0]
    rw [refleap_eq y h1 (by omega)]
    simp only [Option.bind_some]
    by_cases c : n < dby (y + 1)
    · obtain ⟨m', d', e, hd⟩ := refcivil_end n y k (by omega) hn (by omega) hb c
      refine ⟨y, m', d', ?_, hd⟩
      unfold lp at hs
      cases hl : isLeap y with
      | true => rw [hl] at hs; simp only [if_true] at hs ⊢; rw [if_pos (by omega)]; exact e
      | false => rw [hl] at hs; simp only [Bool.false_eq_true, if_false] at hs ⊢; rw [if_pos (by omega)]; exact e
    · have := ih k (y + 1) (by omega) (by omega) (by omega) (by omega)
      unfold lp at hs
      cases hl : isLeap y with
      | true =>
        rw [hl] at hs; simp only [if_true] at hs ⊢
        rw [if_neg (by omega), w64_ (y + 1) (by omega) (by omega), w64_ _ (by omega) (by omega), show n - dby y - 366 = n - dby (y + 1) by omega]; exact this
      | false =>
        rw [hl] at hs; simp only [Bool.false_eq_true, if_false] at hs ⊢
        rw [if_neg (by omega), w64_ (y + 1) (by omega) (by omega), w64_ _ (by omega) (by omega), show n - dby y - 365 = n - dby (y + 1) by omega]; exact this
theorem refcivil_ok (n : Int) (hn : 0 ≤ n ∧ n ≤ 3652058) (k : Nat) (hk : 10100 ≤ k) {y m d : Int} (h : IsDate n y m d) : arrearsref05_Civil.f k n = some (y, m, d) := by
  have e0 : dby (1 + 400 * (n / 146097)) = 146097 * (n / 146097) := by unfold dby; omega
  obtain ⟨y', m', d', e, hd⟩ := refcivil_l0 n hn (9999 - (1 + 400 * (n / 146097))).toNat k (1 + 400 * (n / 146097)) (by omega) (by omega) (by omega) (by omega)
  obtain ⟨rfl, rfl, rfl⟩ := h.unique hd
  unfold arrearsref05_Civil.f
  rw [tmod0 hn.1, tdiv0 hn.1, w64_ (n / 146097) (by omega) (by omega), w64_ (400 * (n / 146097)) (by omega) (by omega), w64_ _ (by omega) (by omega), show n % 146097 = n - dby (1 + 400 * (n / 146097)) by omega]
  exact e

theorem refone_eq (k : Nat) (hk : 10100 ≤ k) (b n : Int) (hb : b = 1 ∨ b = 2) {y m d : Int} (h : IsDate n y m d) : arrearsref06_One.f k (b == 2) n = some (if b = 2 then one2 y m d else 1) := by
  have r1 := h.range
  have g1 := h.hy; have g2 := h.hm; have g3 := h.hd; have g4 := mlen_bd y m
  unfold arrearsref06_One.f
  rcases hb with rfl | rfl
  · rw [if_neg (by decide), if_neg (by omega)]
  · rw [if_pos (by decide), if_pos rfl, refcivil_ok n r1 k hk h]
    simp only [Option.bind_some]
    rw [reflength_eq k (by omega) y m g1 g2]
    simp only [Option.bind_some]
    unfold one2
    by_cases c : d < mlen y m
    · rw [if_pos c, if_pos c]
    · rw [if_neg c, if_neg c]
      by_cases c2 : mlen y m = 31
      · rw [if_pos c2, c2]; rfl
      · rw [if_neg c2, w64_ _ (by omega) (by omega)]

theorem month_no (k : Nat) (parts b p : Int) (h : ¬ ((parts ≤ 1000000 ∧ (b = 1 ∨ b = 2)) ∧ (0 ≤ p ∧ p ≤ 1000000000000))) : yield_Rate_Month.f (k + 1) parts b p = some (0, some 1) := by
  unfold yield_Rate_Month.f
  rw [rright_eq, cright_eq]
  simp only [Option.bind_some]
  by_cases c : parts ≤ 1000000 ∧ (b = 1 ∨ b = 2)
  · rw [decide_eq_true c, decide_eq_false (fun q => h ⟨c, q⟩)]
    simp only [if_true, Bool.not_false, yield_Rate_Month.j0]
  · rw [decide_eq_false c]
    simp only [Bool.false_eq_true, if_false, yield_Rate_Month.j0, if_true]
theorem fits_days {parts b p carry : Int} {n : Int} (h : fitsAll parts b p 0 carry) (hn : 0 ≤ n ∧ n ≤ 3) : fitsAll parts b p n carry := ⟨h.1, h.2.1, h.2.2.1, by omega, h.2.2.2.2⟩
theorem pure_proved : arrearslaw09_YieldDays.Pure := by
  intro parts b p d carry hparts hb hp hd hc
  refine ⟨20500, ?_⟩
  unfold arrearslaw09_YieldDays.f
  rw [awake_yes 20500 (by omega)]
  simp only [Option.bind_some, if_true]
  by_cases h0 : fitsAll parts b p 0 0
  · have hP : 0 ≤ parts ∧ parts ≤ 1000000 := ⟨hparts.1, h0.1⟩
    have hx := h0.2.2.1
    have hbb := h0.2.1
    rw [monthly_ok 20500 (by omega) parts b p hP hbb hx, lawright_yes _ _ _ _ _ h0]
    have key : ∀ n l e, yield_Rate_Day.f 20500 parts b p d carry = some (n, l, e) → arrearslaw09_YieldDays.j0 20500 p d carry n l e false parts b = some true := by
      intro n l e he
      simp only [arrearslaw09_YieldDays.j0, Bool.false_eq_true, if_false]
      rw [lawright_eq]
      simp only [Option.bind_some]
      unfold yield_Rate_Day.f at he
      have bad : (some ((0 : Int), (0 : Int), some (1 : Int))) = some (n, l, e) → arrearslaw09_YieldDays.j1 20499 p d carry n l e true parts b = some true := by
        intro hq
        obtain ⟨rfl, rfl, rfl⟩ : 0 = n ∧ 0 = l ∧ some 1 = e := by simpa using hq
        simp only [arrearslaw09_YieldDays.j1, if_true, api_Code.f, Option.getD_some, Option.bind_some]
        rfl
      by_cases h1 : fitsAll parts b p 0 carry
      · rw [days_ok 20500 (by omega) parts b p 0 carry hparts.1 hc.1 h1] at he
        simp only [Option.bind_some, Option.isNone_none, if_true] at he
        rw [decide_eq_true h1]
        simp only [if_true]
        by_cases cd : 0 ≤ d ∧ d < 3652058
        · obtain ⟨y, m, q, _, hdt⟩ := civil_ok d (by omega) 20500 (by omega)
          rw [one_ok 20500 (by omega) b d hbb cd.2 hdt] at he
          simp only [Option.bind_some, Option.isNone_none, if_true] at he
          have ho := one2_bd y m q
          have hr := refone_eq 20498 (by omega) b d hbb hdt
          have hn : 0 ≤ (if b = 2 then one2 y m q else 1) ∧ (if b = 2 then one2 y m q else 1) ≤ 3 := by split <;> omega
          generalize (if b = 2 then one2 y m q else 1) = N at *
          have h2 := fits_days h1 hn
          rw [days_ok 20500 (by omega) parts b p N carry hparts.1 hc.1 h2] at he
          obtain ⟨rfl, rfl, rfl⟩ : _ ∧ _ ∧ _ := by simpa using he
          rw [if_neg (by omega), decide_eq_false (show ¬ d ≥ 3652058 by omega)]
          simp only [arrearslaw09_YieldDays.j1, Bool.false_eq_true, if_false, arrearslaw09_own.f, Option.bind_some]
          unfold arrearsref09_Day.f
          rw [show wrap64 d = d by unfold wrap64; omega, hr]
          simp only [Option.bind_some]
          rw [refdays_ok parts b p N carry hparts.1 hc.1 h2]
          simp only [Option.bind_some, Option.isNone_none, if_true, beq_self_eq_true]
        · rw [one_no 20500 (by omega) b d (by omega) (fun q => cd ⟨q.2.1, q.2.2⟩)] at he
          have hbad := bad he
          by_cases c : d < 0
          · rw [if_pos c]; exact hbad
          · rw [if_neg c, decide_eq_true (show d ≥ 3652058 by omega)]; exact hbad
      · rw [days_bad 20500 (by omega) parts b p 0 carry h1] at he
        rw [decide_eq_false h1]
        simp only [Bool.false_eq_true, if_false]
        exact bad he
    have hex : ∃ n l e, yield_Rate_Day.f 20500 parts b p d carry = some (n, l, e) := by
      unfold yield_Rate_Day.f
      by_cases h1 : fitsAll parts b p 0 carry
      · rw [days_ok 20500 (by omega) parts b p 0 carry hparts.1 hc.1 h1]
        simp only [Option.bind_some, Option.isNone_none, if_true]
        by_cases cd : 0 ≤ d ∧ d < 3652058
        · obtain ⟨y, m, q, _, hdt⟩ := civil_ok d (by omega) 20500 (by omega)
          rw [one_ok 20500 (by omega) b d hbb cd.2 hdt]
          simp only [Option.bind_some, Option.isNone_none, if_true]
          have ho := one2_bd y m q
          have hn : 0 ≤ (if b = 2 then one2 y m q else 1) ∧ (if b = 2 then one2 y m q else 1) ≤ 3 := by split <;> omega
          rw [days_ok 20500 (by omega) parts b p _ carry hparts.1 hc.1 (fits_days h1 hn)]
          exact ⟨_, _, _, rfl⟩
        · rw [one_no 20500 (by omega) b d (by omega) (fun q => cd ⟨q.2.1, q.2.2⟩)]
          exact ⟨_, _, _, rfl⟩
      · rw [days_bad 20500 (by omega) parts b p 0 carry h1]
        exact ⟨_, _, _, rfl⟩
    obtain ⟨n, l, e, he⟩ := hex
    rw [he]
    simp only [Option.bind_some, if_true, Option.isNone_none, arrearslaw09_own.f]
    rw [refmonth_ok parts p (b == 2) hP hx]
    simp only [Option.bind_some, bne_self_eq_false]
    exact key n l e he
  · have hu := unitOf_bd b
    have hno : ¬ ((parts ≤ 1000000 ∧ (b = 1 ∨ b = 2)) ∧ (0 ≤ p ∧ p ≤ 1000000000000)) := fun q => h0 ⟨q.1.1, q.1.2, q.2, by omega, by omega⟩
    have h1 : ¬ fitsAll parts b p 0 carry := fun q => hno ⟨⟨q.1, q.2.1⟩, q.2.2.1⟩
    have he : yield_Rate_Day.f 20500 parts b p d carry = some (0, 0, some 1) := by
      unfold yield_Rate_Day.f
      rw [days_bad 20500 (by omega) parts b p 0 carry h1]
      rfl
    rw [he, month_no 20499 parts b p hno, lawright_no _ _ _ _ _ h0]
    simp only [Option.bind_some, Bool.false_eq_true, if_false, api_Code.f, Option.getD_some, if_true]
    rfl

end Go.Proofs.YtldicnmpegkicaaDoor.PYieldDays
