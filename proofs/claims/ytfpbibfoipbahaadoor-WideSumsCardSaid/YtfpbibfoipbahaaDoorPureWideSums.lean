/- The pure statement behind the law WideSums, over numbers and lists alone. Conditions: those that the printed statement names (each number is of its kind). -/
import Derived.Test.YtfpbibfoipbahaaDoorDWideSums
import Derived.Test.YtfpbibfoipbahaaDoorMwords64
import Derived.Lib.ItoaNum
set_option linter.unusedVariables false
set_option linter.unusedSimpArgs false
namespace Go.Proofs.YtfpbibfoipbahaaDoor.PWideSums
open Go.RowKit Go.Proofs.YtfpbibfoipbahaaDoorW.PrintWords Go.Proofs.YtfpbibfoipbahaaDoorW.PrintLast Go.Proofs.YtfpbibfoipbahaaDoorW.PrintMore Go.Proofs.YtfpbibfoipbahaaDoor.M

theorem mul64_ok (a b : Int) (ha : 0 ≤ a ∧ a ≤ 18446744073709551615) (hb : 0 ≤ b ∧ b ≤ 18446744073709551615) : bits_Mul64.f a b = some (a * b / 18446744073709551616, a * b % 18446744073709551616) := by
  unfold bits_Mul64.f
  rw [and_mask32 a ha.1 (by omega), and_mask32 b hb.1 (by omega)]
  have h := mul_parts (a / 4294967296) (a % 4294967296) (b / 4294967296) (b % 4294967296) (by omega) (by omega) (by omega) (by omega)
  have ea : a / 4294967296 * 4294967296 + a % 4294967296 = a := by omega
  have eb : b / 4294967296 * 4294967296 + b % 4294967296 = b := by omega
  rw [ea, eb] at h
  have b2 : 0 ≤ a / 4294967296 * (b % 4294967296) ∧ a / 4294967296 * (b % 4294967296) ≤ 4294967295 * 4294967295 := ⟨Int.mul_nonneg (by omega) (by omega), Int.mul_le_mul (by omega) (by omega) (by omega) (by omega)⟩
  have b4 : 0 ≤ a % 4294967296 * (b % 4294967296) ∧ a % 4294967296 * (b % 4294967296) ≤ 4294967295 * 4294967295 := ⟨Int.mul_nonneg (by omega) (by omega), Int.mul_le_mul (by omega) (by omega) (by omega) (by omega)⟩
  have hm : Go.bits .and .u64 (IntKind.u64.wrap ((IntKind.u64.wrap ((a / 4294967296) * (b % 4294967296))) + ((IntKind.u64.wrap ((a % 4294967296) * (b % 4294967296))) / 4294967296))) 4294967295 = (IntKind.u64.wrap ((IntKind.u64.wrap ((a / 4294967296) * (b % 4294967296))) + ((IntKind.u64.wrap ((a % 4294967296) * (b % 4294967296))) / 4294967296))) % 4294967296 := by
    refine and_mask32 _ ?_ ?_ <;> rw [u64_wrap] <;> omega
  rw [hm, h, u64_wrap]
theorem mul_ok (a b : Int) (ha : 0 ≤ a ∧ a ≤ 18446744073709551615) (hb : 0 ≤ b ∧ b ≤ 18446744073709551615) : wide_Mul.f a b = some (a * b / 18446744073709551616, a * b % 18446744073709551616) := by
  unfold wide_Mul.f
  rw [mul64_ok a b ha hb]
  rfl
theorem zeros_ok (_k : Nat) (y : Int) (h0 : 0 < y) (h1 : y ≤ 18446744073709551615) :
    ∃ s : Nat, s ≤ 63 ∧ bits_LeadingZeros64.f y = some (s : Int) ∧ 9223372036854775808 ≤ y * 2 ^ s ∧ y * 2 ^ s < 18446744073709551616 := by
  obtain ⟨n, rfl⟩ := Int.eq_ofNat_of_zero_le (Int.le_of_lt h0)
  have hn : n < 2 ^ 64 := by have : (2 : Nat) ^ 64 = 18446744073709551616 := by decide
                             omega
  obtain ⟨b1, b2, b3⟩ := Go.Lib.bitLenAux_bounds 64 n hn (by omega)
  have b4 : Go.Lib.bitLenAux 64 n ≤ 64 := Go.Lib.bitLen_le n 64 (Nat.le_refl _) (by have : (2 : Nat) ^ 64 = 18446744073709551616 := by decide
                                                                                    omega)
  unfold bits_LeadingZeros64.f bits_Len64.f Go.Lib.bitLen
  rw [if_pos ⟨by omega, by omega⟩, Int.toNat_natCast]
  generalize Go.Lib.bitLenAux 64 n = L at b1 b2 b3 b4 ⊢
  refine ⟨64 - L, by omega, ?_, ?_, ?_⟩
  · simp only [Option.bind_some]
    refine congrArg some ?_
    unfold wrap64; omega
  · have e : (2 : Nat) ^ (L - 1) * 2 ^ (64 - L) = 9223372036854775808 := by
      rw [← Nat.pow_add, show L - 1 + (64 - L) = 63 by omega]
    have := Nat.mul_le_mul_right (2 ^ (64 - L)) b2
    rw [e] at this
    have h2 : ((2 : Int) ^ (64 - L)) = ((2 ^ (64 - L) : Nat) : Int) := by simp
    rw [h2, ← Int.natCast_mul]
    exact Int.ofNat_le.2 this
  · have e : (2 : Nat) ^ L * 2 ^ (64 - L) = 18446744073709551616 := by
      rw [← Nat.pow_add, show L + (64 - L) = 64 by omega]
    have := (Nat.mul_lt_mul_right (show 0 < 2 ^ (64 - L) from Nat.two_pow_pos _)).2 b3
    rw [e] at this
    have h2 : ((2 : Int) ^ (64 - L)) = ((2 ^ (64 - L) : Nat) : Int) := by simp
    rw [h2, ← Int.natCast_mul]
    exact Int.ofNat_lt.2 this
theorem digit2 {Y yn1 yn0 un21 un0 : Int} (s : Nat) (Q1 : Int) : ∀ (n k : Nat) (q rh : Int), Digit Y yn1 yn0 un21 un0 q rh → 4294967296 ≤ rh + n * 2147483648 → 2 * n + 4 < k →
    bits_Div64.l1 k Y (s : Int) yn1 yn0 un0 Q1 rh un21 q = some (IntKind.u64.wrap ((IntKind.u64.wrap (Q1 * 4294967296)) + (un21 * 4294967296 + un0) / Y), shr .u64 (IntKind.u64.wrap ((IntKind.u64.wrap ((IntKind.u64.wrap (un21 * 4294967296)) + un0)) - (IntKind.u64.wrap ((un21 * 4294967296 + un0) / Y * Y)))) (s : Int)) := by
  intro n
  induction n with
  | zero => intro k q rh d hn; have := d.hr0; omega
  | succ n ih =>
    intro k q rh d hn hk
    obtain ⟨k, rfl⟩ : ∃ m, k = m + 2 := ⟨k - 2, by omega⟩
    have h1 := d.h1; have hr0 := d.hr0; have hq := d.hq; have hf := d.fits
    have go : (un21 * 4294967296 + un0) / Y < q → bits_Div64.j4 (k + 1) Y (s : Int) yn1 yn0 un0 Q1 rh un21 q true = some (IntKind.u64.wrap ((IntKind.u64.wrap (Q1 * 4294967296)) + (un21 * 4294967296 + un0) / Y), shr .u64 (IntKind.u64.wrap ((IntKind.u64.wrap ((IntKind.u64.wrap (un21 * 4294967296)) + un0)) - (IntKind.u64.wrap ((un21 * 4294967296 + un0) / Y * Y)))) (s : Int)) := by
      intro hgt
      simp only [bits_Div64.j4, if_true]
      rw [u64_in (n := rh + yn1) (by omega) (by omega), u64_in (n := q - 1) (by omega) (by omega)]
      by_cases c : rh + yn1 ≥ 4294967296
      · rw [if_pos c, if_pos (by omega), d.last hgt c]
      · rw [if_neg c]
        exact ih k (q - 1) (rh + yn1) (d.less hgt (by omega)) (by omega) (by omega)
    have stop : ¬ (un21 * 4294967296 + un0) / Y < q → bits_Div64.j4 (k + 1) Y (s : Int) yn1 yn0 un0 Q1 rh un21 q false = some (IntKind.u64.wrap ((IntKind.u64.wrap (Q1 * 4294967296)) + (un21 * 4294967296 + un0) / Y), shr .u64 (IntKind.u64.wrap ((IntKind.u64.wrap ((IntKind.u64.wrap (un21 * 4294967296)) + un0)) - (IntKind.u64.wrap ((un21 * 4294967296 + un0) / Y * Y)))) (s : Int)) := by
      intro hle
      have e : q = (un21 * 4294967296 + un0) / Y := by omega
      simp only [bits_Div64.j4, Bool.false_eq_true, if_false]
      rw [if_pos (by omega), e]
    simp only [bits_Div64.l1]
    by_cases c1 : q ≥ 4294967296
    · rw [if_pos c1]; exact go (d.great c1)
    · rw [if_neg c1]
      by_cases c2 : (un21 * 4294967296 + un0) / Y < q
      · rw [decide_eq_true ((d.test (by omega)).2 c2)]; exact go c2
      · rw [decide_eq_false (fun h => c2 ((d.test (by omega)).1 h))]; exact stop c2
theorem digit1 {Y yn1 yn0 un32 un1 : Int} (s : Nat) (un0 : Int) : ∀ (n k : Nat) (q rh : Int), Digit Y yn1 yn0 un32 un1 q rh → 4294967296 ≤ rh + n * 2147483648 → 2 * n + 14 < k →
    ∃ k', 12 < k' ∧ bits_Div64.l0 k Y (s : Int) yn1 yn0 un32 un1 un0 q rh = bits_Div64.j2 k' Y (s : Int) yn1 yn0 un32 un1 un0 ((un32 * 4294967296 + un1) / Y) := by
  intro n
  induction n with
  | zero => intro k q rh d hn; have := d.hr0; omega
  | succ n ih =>
    intro k q rh d hn hk
    obtain ⟨k, rfl⟩ : ∃ m, k = m + 2 := ⟨k - 2, by omega⟩
    have h1 := d.h1; have hr0 := d.hr0; have hq := d.hq; have hf := d.fits
    have go : (un32 * 4294967296 + un1) / Y < q → ∃ k', 12 < k' ∧ bits_Div64.j1 (k + 1) Y (s : Int) yn1 yn0 un32 un1 un0 q rh true = bits_Div64.j2 k' Y (s : Int) yn1 yn0 un32 un1 un0 ((un32 * 4294967296 + un1) / Y) := by
      intro hgt
      simp only [bits_Div64.j1, if_true]
      rw [u64_in (n := rh + yn1) (by omega) (by omega), u64_in (n := q - 1) (by omega) (by omega)]
      by_cases c : rh + yn1 ≥ 4294967296
      · rw [if_pos c, d.last hgt c]
        exact ⟨k, by omega, rfl⟩
      · rw [if_neg c]
        exact ih k (q - 1) (rh + yn1) (d.less hgt (by omega)) (by omega) (by omega)
    have stop : ¬ (un32 * 4294967296 + un1) / Y < q → ∃ k', 12 < k' ∧ bits_Div64.j1 (k + 1) Y (s : Int) yn1 yn0 un32 un1 un0 q rh false = bits_Div64.j2 k' Y (s : Int) yn1 yn0 un32 un1 un0 ((un32 * 4294967296 + un1) / Y) := by
      intro hle
      have e : q = (un32 * 4294967296 + un1) / Y := by omega
      simp only [bits_Div64.j1, Bool.false_eq_true, if_false]
      rw [← e]
      exact ⟨k, by omega, rfl⟩
    simp only [bits_Div64.l0]
    by_cases c1 : q ≥ 4294967296
    · rw [if_pos c1]; exact go (d.great c1)
    · rw [if_neg c1]
      by_cases c2 : (un32 * 4294967296 + un1) / Y < q
      · rw [decide_eq_true ((d.test (by omega)).2 c2)]; exact go c2
      · rw [decide_eq_false (fun h => c2 ((d.test (by omega)).1 h))]; exact stop c2
theorem div64_ok (k : Nat) (hk : 30 ≤ k) (hi lo y : Int) (hhi : 0 ≤ hi ∧ hi < y) (hlo : 0 ≤ lo ∧ lo ≤ 18446744073709551615) (hy : y ≤ 18446744073709551615) :
    bits_Div64.f k hi lo y = some ((hi * 18446744073709551616 + lo) / y, (hi * 18446744073709551616 + lo) % y) := by
  unfold bits_Div64.f
  rw [if_neg (by omega), if_neg (by omega)]
  by_cases c0 : hi = 0
  · rw [if_pos c0, tdiv_nn hlo.1, tmod_nn hlo.1, c0]
    have hq0 : 0 ≤ lo / y := Int.ediv_nonneg hlo.1 (by omega)
    have hq1 : lo / y ≤ lo := Int.ediv_le_self y hlo.1
    rw [u64_in hq0 (by omega)]
    simp
  · rw [if_neg c0]
    obtain ⟨k, rfl⟩ : ∃ m, k = m + 1 := ⟨k - 1, by omega⟩
    obtain ⟨s, hs, e, l1, l2⟩ := zeros_ok k y (by omega) hy
    rw [e]
    simp only [Option.bind_some]
    have hw1 : IntKind.u64.wrap (s : Int) = (s : Int) := u64_in (by omega) (by omega)
    have hw2 : IntKind.u64.wrap (64 - (s : Int)) = ((64 - s : Nat) : Int) := by rw [u64_in (by omega) (by omega)]; omega
    rw [hw1, hw2, if_pos (by omega), if_pos (by omega)]
    obtain ⟨f1, f2, f3, f4, f5, f6, f7⟩ := shifted hs hhi ⟨hlo.1, by omega⟩ l2
    have hY : shl .u64 y (s : Int) = y * 2 ^ s := by rw [shl_eq y s hs]; exact Int.emod_eq_of_lt (by omega) l2
    rw [f1, f2, hY]
    have hP := two_pow_pos s
    generalize hYe : y * 2 ^ s = Y at *
    generalize hi * 2 ^ s + lo / 2 ^ (64 - s) = un32 at *
    generalize lo % 2 ^ (64 - s) * 2 ^ s = un10 at *
    rw [if_neg (by omega), and_mask32 Y (by omega) l2, and_mask32 un10 f5 f6, tdiv_nn f3]
    have d0 := Digit.start (Y := Y) (yn1 := Y / 4294967296) (yn0 := Y % 4294967296) (U := un32) (un1 := un10 / 4294967296) (by omega) (by omega) (by omega) ⟨f3, f4⟩ (by omega)
    have hq := d0.hq; have hr0 := d0.hr0
    have hz : 0 ≤ un32 / (Y / 4294967296) * (Y / 4294967296) := Int.mul_nonneg hq.2.1 (by omega)
    rw [u64_in hq.2.1 (by omega), u64_in hz (by omega), u64_in hr0.1 (by omega)]
    obtain ⟨k', hk', e1⟩ := digit1 s (un10 % 4294967296) 2 (k + 1) _ _ d0 (by omega) (by omega)
    rw [e1]
    have hYp := d0.pos
    have hf := d0.fits
    have hrest := digit_rest (un32 * 4294967296 + un10 / 4294967296) Y hYp
    obtain ⟨k', rfl⟩ : ∃ m, k' = m + 1 := ⟨k' - 1, by omega⟩
    simp only [bits_Div64.j2]
    rw [if_neg (by omega), rest_wrap _ _ _ _ hrest.1 (by omega)]
    generalize hQ1 : (un32 * 4294967296 + un10 / 4294967296) / Y = Q1 at *
    generalize hr1 : un32 * 4294967296 + un10 / 4294967296 - Q1 * Y = r1 at *
    rw [tdiv_nn hrest.1]
    have d2 := Digit.start (Y := Y) (yn1 := Y / 4294967296) (yn0 := Y % 4294967296) (U := r1) (un1 := un10 % 4294967296) (by omega) (by omega) (by omega) hrest (by omega)
    have hq2 := d2.hq; have hr2 := d2.hr0; have hf2 := d2.fits
    have hz2 : 0 ≤ r1 / (Y / 4294967296) * (Y / 4294967296) := Int.mul_nonneg hq2.2.1 (by omega)
    rw [u64_in hq2.2.1 (by omega), u64_in hz2 (by omega), u64_in hr2.1 (by omega)]
    rw [digit2 s Q1 2 k' _ _ d2 (by omega) (by omega)]
    have hrest2 := digit_rest (r1 * 4294967296 + un10 % 4294967296) Y hYp
    rw [rest_wrap _ _ _ _ hrest2.1 (by omega), shr_eq _ s (by omega), u64_in (n := Q1 * 4294967296) (by omega) (by omega), u64_in (by omega) (by omega)]
    obtain ⟨g1, g2⟩ := two_digits (T := hi * 18446744073709551616 + lo) (Y := Y) (un32 := un32) (un1 := un10 / 4294967296) (un0 := un10 % 4294967296) (P := 2 ^ s) (y := y) hP (by omega) hYe.symm (by rw [f7]; omega) (by omega) hQ1.symm hr1.symm rfl rfl
    rw [g1, g2]
theorem wdiv_ok (k : Nat) (hk : 30 ≤ k) (hi lo n : Int) (hhi : 0 ≤ hi ∧ hi ≤ 18446744073709551615) (hlo : 0 ≤ lo ∧ lo ≤ 18446744073709551615) (hn : 0 < n ∧ n ≤ 18446744073709551615) :
    wide_Wide_Div.f k hi lo n = some (hi / n, (hi % n * 18446744073709551616 + lo) / n, (hi % n * 18446744073709551616 + lo) % n, none) := by
  unfold wide_Wide_Div.f
  have m0 := Int.emod_nonneg hi (show n ≠ 0 by omega)
  have m1 := Int.emod_lt_of_pos hi hn.1
  rw [if_neg (by omega), tmod_nn hhi.1, tdiv_nn hhi.1, div64_ok k hk _ _ _ ⟨m0, m1⟩ hlo hn.2]
  simp only [Option.bind_some]
  have hq0 : 0 ≤ hi / n := Int.ediv_nonneg hhi.1 (by omega)
  have hq1 : hi / n ≤ hi := Int.ediv_le_self n hhi.1
  rw [u64_in hq0 (by omega)]
/-- The quotient of a number of two words. -/
theorem wide_quot (hi lo n : Int) (hn : 0 < n) : (hi * 18446744073709551616 + lo) / n = hi / n * 18446744073709551616 + (hi % n * 18446744073709551616 + lo) / n ∧ (hi * 18446744073709551616 + lo) % n = (hi % n * 18446744073709551616 + lo) % n := by
  have e := Int.mul_ediv_add_emod hi n
  have e2 : hi * 18446744073709551616 + lo = (hi % n * 18446744073709551616 + lo) + hi / n * 18446744073709551616 * n := by
    have : n * (hi / n) * 18446744073709551616 = hi / n * 18446744073709551616 * n := by ac_rfl
    omega
  constructor
  · rw [e2, Int.add_mul_ediv_right _ _ (by omega)]
    omega
  · rw [e2, Int.add_mul_emod_self_right]
theorem low_quot (hi lo n : Int) (hhi : 0 ≤ hi) (hlo : 0 ≤ lo ∧ lo ≤ 18446744073709551615) (hn : 0 < n) : 0 ≤ (hi % n * 18446744073709551616 + lo) / n ∧ (hi % n * 18446744073709551616 + lo) / n ≤ 18446744073709551615 := by
  have m0 := Int.emod_nonneg hi (show n ≠ 0 by omega)
  have m1 := Int.emod_lt_of_pos hi hn
  refine ⟨Int.ediv_nonneg (by omega) (by omega), ?_⟩
  have : (hi % n * 18446744073709551616 + lo) / n < 18446744073709551616 := Int.ediv_lt_of_lt_mul hn (by omega)
  omega
theorem prod_words (a b : Int) (ha : 0 ≤ a ∧ a ≤ 18446744073709551615) (hb : 0 ≤ b ∧ b ≤ 18446744073709551615) : 0 ≤ a * b / 18446744073709551616 ∧ a * b / 18446744073709551616 ≤ 18446744073709551614 ∧ 0 ≤ a * b % 18446744073709551616 ∧ a * b % 18446744073709551616 ≤ 18446744073709551615 ∧ 0 ≤ a * b := by
  have b1 : 0 ≤ a * b ∧ a * b ≤ 18446744073709551615 * 18446744073709551615 := ⟨Int.mul_nonneg ha.1 hb.1, Int.mul_le_mul ha.2 hb.2 hb.1 (by omega)⟩
  generalize a * b = p at *
  omega

/-- Scale: a product by a number: its quotient, what is left; or its errors. -/
theorem scale_ok (k : Nat) (hk : 30 ≤ k) (a b c : Int) (ha : 0 ≤ a ∧ a ≤ 18446744073709551615) (hb : 0 ≤ b ∧ b ≤ 18446744073709551615) (hc : 0 ≤ c ∧ c ≤ 18446744073709551615) :
    wide_Scale.f k a b c = some (if c = 0 then (0, 0, some 1) else if a * b / c ≤ 18446744073709551615 then (a * b / c, a * b % c, none) else (0, 0, some 12)) := by
  unfold wide_Scale.f
  obtain ⟨p1, p2, p3, p4, p5⟩ := prod_words a b ha hb
  rw [mul_ok a b ha hb]
  simp only [Option.bind_some]
  by_cases c0 : c = 0
  · rw [if_pos c0]
    unfold wide_Wide_Div.f
    rw [if_pos c0]
    rfl
  · rw [if_neg c0, wdiv_ok k hk _ _ c ⟨p1, by omega⟩ ⟨p3, p4⟩ ⟨by omega, hc.2⟩]
    obtain ⟨q1, q2⟩ := wide_quot (a * b / 18446744073709551616) (a * b % 18446744073709551616) c (by omega)
    have l := low_quot (a * b / 18446744073709551616) (a * b % 18446744073709551616) c p1 ⟨p3, p4⟩ (by omega)
    rw [show a * b / 18446744073709551616 * 18446744073709551616 + a * b % 18446744073709551616 = a * b by omega] at q1 q2
    have h0 : 0 ≤ a * b / 18446744073709551616 / c := Int.ediv_nonneg p1 (by omega)
    rw [q1, q2]
    simp only [Option.bind_some, Option.isNone_none, if_true]
    unfold wide_Wide_Small.f
    generalize a * b / 18446744073709551616 / c = Q at *
    generalize (a * b / 18446744073709551616 % c * 18446744073709551616 + a * b % 18446744073709551616) / c = R at *
    by_cases c1 : Q = 0
    · subst c1
      rw [if_pos rfl, if_pos (by omega)]
      simp
    · rw [if_neg c1, if_neg (by omega)]
      rfl

theorem awake_yes (k : Nat) (hk : 30 ≤ k) : arrearslaw03_awake.f k = some true := by
  unfold arrearslaw03_awake.f
  rw [scale_ok k hk 9223372036854775808 6 4 (by omega) (by omega) (by omega)]
  rfl

/-- The sum of the first ones. -/
def sumTo (f : Nat → Int) : Nat → Int
  | 0 => 0
  | i + 1 => sumTo f i + f i
theorem sumTo_shift (f : Nat → Int) : ∀ n, sumTo f (n + 1) = f 0 + sumTo (fun j => f (j + 1)) n := by
  intro n
  induction n with
  | zero => simp [sumTo]
  | succ n ih =>
    rw [sumTo, ih]
    simp only [sumTo]
    omega
theorem sumTo_congr {f g : Nat → Int} : ∀ n, (∀ j, j < n → f j = g j) → sumTo f n = sumTo g n := by
  intro n
  induction n with
  | zero => intro _; rfl
  | succ n ih => intro h; simp only [sumTo]; rw [ih (fun j hj => h j (by omega)), h n (by omega)]
theorem sumTo_rev : ∀ (n : Nat) (f : Nat → Int), sumTo (fun j => f (n - 1 - j)) n = sumTo f n := by
  intro n
  induction n with
  | zero => intro f; rfl
  | succ n ih =>
    intro f
    rw [sumTo_shift f n]
    simp only [sumTo]
    rw [show n + 1 - 1 - n = 0 by omega]
    have := ih (fun j => f (j + 1))
    rw [← this]
    rw [sumTo_congr (f := fun j => f (n + 1 - 1 - j)) (g := fun j => f (n - 1 - j + 1)) n (fun j hj => by show f (n + 1 - 1 - j) = f (n - 1 - j + 1); congr 1; omega)]
    omega
theorem sumTo_bd (f : Nat → Int) (hf : ∀ j, 0 ≤ f j ∧ f j ≤ 18446744073709551615) : ∀ n, 0 ≤ sumTo f n ∧ sumTo f n ≤ 18446744073709551615 * n := by
  intro n
  induction n with
  | zero => simp [sumTo]
  | succ n ih => have := hf n; simp only [sumTo]; omega
theorem sumTo_mono (f : Nat → Int) (hf : ∀ j, 0 ≤ f j ∧ f j ≤ 18446744073709551615) (n : Nat) : sumTo f n ≤ sumTo f (n + 1) := by have := hf n; simp only [sumTo]; omega
/-- What stands there of a number: it, or nothing and the error. -/
def WS (V h l : Int) (e : Option Int) : Prop := if V < 340282366920938463463374607431768211456 then (e = none ∧ 0 ≤ h ∧ h ≤ 18446744073709551615 ∧ 0 ≤ l ∧ l ≤ 18446744073709551615 ∧ V = h * 18446744073709551616 + l) else (e = some 12 ∧ h = 0 ∧ l = 0)
theorem add_ws {V h l x : Int} (hx : 0 ≤ x ∧ x ≤ 18446744073709551615) (w : WS V h l none) : ∃ h' l' e', wide_Wide_Add.f h l x = some (h', l', e') ∧ WS (V + x) h' l' e' := by
  unfold WS at w
  by_cases c : V < 340282366920938463463374607431768211456
  · rw [if_pos c] at w
    obtain ⟨_, h0, h1, l0, l1, hV⟩ := w
    unfold wide_Wide_Add.f wide_Wide_Plus.f
    rw [if_pos ⟨⟨h0, h1⟩, ⟨l0, l1⟩, by omega, hx⟩]
    by_cases c2 : h + 0 + (l + x) / 18446744073709551616 ≤ 18446744073709551615
    · rw [if_pos c2]
      refine ⟨h + 0 + (l + x) / 18446744073709551616, (l + x) % 18446744073709551616, none, rfl, ?_⟩
      unfold WS
      rw [if_pos (by omega)]
      refine ⟨rfl, ?_, c2, ?_, ?_, ?_⟩ <;> omega
    · rw [if_neg c2]
      refine ⟨0, 0, some 12, rfl, ?_⟩
      unfold WS
      rw [if_neg (by omega)]
      exact ⟨rfl, rfl, rfl⟩
  · rw [if_neg c] at w
    simp at w
theorem ws_err {V h l x c : Int} (hx : 0 ≤ x) (w : WS V h l (some c)) : WS (V + x) h l (some c) := by
  unfold WS at w ⊢
  by_cases q : V < 340282366920938463463374607431768211456
  · rw [if_pos q] at w; simp at w
  · rw [if_neg q] at w; rw [if_neg (by omega)]; exact w
theorem less_no (h l hi : Int) (h0 : 0 ≤ h ∧ h ≤ 18446744073709551615) (l0 : 0 ≤ l ∧ l ≤ 18446744073709551615) (hhi : 0 ≤ hi ∧ hi ≤ 18446744073709551615) (hle : hi ≤ h) : wide_Wide_Less.f h l hi 0 = some false := by
  unfold wide_Wide_Less.f
  rw [if_pos ⟨h0, l0, hhi, by omega⟩, decide_eq_false (by omega)]
theorem sums_idx {n i : Nat} (hn : n ≤ 20) (h : i < n) : (i : Int) < (n : Int) ∧ 0 ≤ (i : Int) ∧ 0 ≤ ((n - 1 - i : Nat) : Int) ∧ ((n - 1 - i : Nat) : Int) < (n : Int) ∧ wrap64 ((n : Int) - 1) = (n : Int) - 1 ∧ wrap64 ((n : Int) - 1 - (i : Int)) = ((n - 1 - i : Nat) : Int) ∧ wrap64 ((i : Int) + 1) = (i : Int) + 1 := by
  refine ⟨by omega, by omega, by omega, by omega, by unfold wrap64; omega, by unfold wrap64; omega, by unfold wrap64; omega⟩
theorem sums_l0 (xs : List Int) (hi : Int) (hhi : 0 ≤ hi ∧ hi ≤ 18446744073709551615) (hlen : xs.length ≤ 20) (hx : ∀ j : Nat, 0 ≤ rd xs (j : Int) ∧ rd xs (j : Int) ≤ 18446744073709551615) : ∀ (r k i : Nat) (x7 x8 : Option Int) (a0 a1 b0 b1 : Int), xs.length - i = r → i ≤ xs.length → r < k →
    WS (hi * 18446744073709551616 + sumTo (fun j => rd xs (j : Int)) i) a0 a1 x7 → WS (hi * 18446744073709551616 + sumTo (fun j => rd xs ((xs.length - 1 - j : Nat) : Int)) i) b0 b1 x8 →
    arrearslaw03_WideSums.l0 k xs hi x7 x8 (xs.length : Int) (i : Int) a0 a1 b0 b1 = some true := by
  intro r
  induction r with
  | zero =>
    intro k i x7 x8 a0 a1 b0 b1 hr hi' hk wa wb
    obtain ⟨k, rfl⟩ : ∃ q, k = q + 1 := ⟨k - 1, by omega⟩
    obtain rfl : i = xs.length := by omega
    have e := sumTo_rev xs.length (fun j => rd xs (j : Int))
    rw [e] at wb
    have bd := sumTo_bd (fun j => rd xs (j : Int)) hx xs.length
    generalize sumTo (fun j => rd xs (j : Int)) xs.length = S at *
    simp only [arrearslaw03_WideSums.l0]
    rw [if_neg (by omega)]
    unfold WS at wa wb
    by_cases c : hi * 18446744073709551616 + S < 340282366920938463463374607431768211456
    · rw [if_pos c] at wa wb
      obtain ⟨rfl, p1, p2, p3, p4, p5⟩ := wa
      obtain ⟨rfl, q1, q2, q3, q4, q5⟩ := wb
      obtain rfl : a0 = b0 := by omega
      obtain rfl : a1 = b1 := by omega
      simp only [Option.isNone_none, if_true, bne_self_eq_false, Bool.false_eq_true, if_false, beq_self_eq_true, Bool.and_self]
      rw [less_no a0 a1 hi ⟨p1, p2⟩ ⟨p3, p4⟩ hhi (by omega)]
      rfl
    · rw [if_neg c] at wa wb
      obtain ⟨rfl, rfl, rfl⟩ := wa
      obtain ⟨rfl, rfl, rfl⟩ := wb
      simp only [Option.isNone_some, Bool.false_eq_true, if_false, bne_self_eq_false, api_Code.f, Option.getD_some, Option.bind_some, if_true]
      rw [decide_eq_true (by omega)]
  | succ r ih =>
    intro k i x7 x8 a0 a1 b0 b1 hr hi' hk wa wb
    obtain ⟨k, rfl⟩ : ∃ q, k = q + 1 := ⟨k - 1, by omega⟩
    obtain ⟨hlt, h0, g0, g1, w0, w1, w2⟩ := sums_idx hlen (show i < xs.length by clear ih wa wb hx; omega)
    have e := fun x7' x8' a0' a1' b0' b1' w1 w2 => ih k (i + 1) x7' x8' a0' a1' b0' b1' (by omega) (by omega) (by omega) w1 w2
    rw [show ((i + 1 : Nat) : Int) = (i : Int) + 1 by omega] at e
    simp only [sumTo] at e
    have hxa := hx i
    have hxb := hx (xs.length - 1 - i)
    simp only [arrearslaw03_WideSums.l0]
    rw [w0, w1, w2, if_pos hlt]
    clear w0 w1 w2
    cases x7 with
    | none =>
      obtain ⟨h', l', e', ea, wa'⟩ := add_ws hxa wa
      simp only [Option.isNone_none, if_true]
      rw [if_pos h0, if_pos hlt, ea]
      simp only [Option.bind_some]
      rw [Int.add_assoc] at wa'
      cases x8 with
      | none =>
        obtain ⟨h2, l2, e2, eb, wb'⟩ := add_ws hxb wb
        simp only [Option.isNone_none, if_true]
        rw [if_pos g0, if_pos g1, eb]
        simp only [Option.bind_some]
        rw [Int.add_assoc] at wb'
        exact e _ _ _ _ _ _ wa' wb'
      | some c =>
        simp only [Option.isNone_some, Bool.false_eq_true, if_false, Option.getD_some]
        have wb' := ws_err hxb.1 wb
        rw [Int.add_assoc] at wb'
        exact e _ _ _ _ _ _ wa' wb'
    | some c7 =>
      have wa' := ws_err hxa.1 wa
      rw [Int.add_assoc] at wa'
      simp only [Option.isNone_some, Bool.false_eq_true, if_false, Option.getD_some]
      cases x8 with
      | none =>
        obtain ⟨h2, l2, e2, eb, wb'⟩ := add_ws hxb wb
        simp only [Option.isNone_none, if_true]
        rw [if_pos g0, if_pos g1, eb]
        simp only [Option.bind_some]
        rw [Int.add_assoc] at wb'
        exact e _ _ _ _ _ _ wa' wb'
      | some c =>
        simp only [Option.isNone_some, Bool.false_eq_true, if_false, Option.getD_some]
        have wb' := ws_err hxb.1 wb
        rw [Int.add_assoc] at wb'
        exact e _ _ _ _ _ _ wa' wb'
theorem sums_all (k : Nat) (l : List Int) (hi : Int) (hk : 100 ≤ k) (hl : l.length * 8 ≤ 140737488351232) (hb : ∀ x ∈ l, 0 ≤ x ∧ x ≤ 18446744073709551615) (hhi : 0 ≤ hi ∧ hi ≤ 18446744073709551615) : arrearslaw03_WideSums.f k l hi = some true := by
  unfold arrearslaw03_WideSums.f
  rw [awake_yes k (by omega)]
  have hm : mn (l.length : Int) 20 = ((min l.length 20 : Nat) : Int) := by unfold mn; (repeat' split) <;> omega
  simp only [Option.bind_some, if_true]
  rw [hm, if_pos (by omega), if_pos (by omega), Int.toNat_natCast, if_pos (by simp only [List.length_nil, List.length_take]; omega), List.nil_append]
  have hlen : (l.take (min l.length 20)).length ≤ 20 := by rw [List.length_take]; omega
  have hx : ∀ j : Nat, 0 ≤ rd (l.take (min l.length 20)) (j : Int) ∧ rd (l.take (min l.length 20)) (j : Int) ≤ 18446744073709551615 := by
    intro j
    by_cases c : j < (l.take (min l.length 20)).length
    · have e : rd (l.take (min l.length 20)) (j : Int) = (l.take (min l.length 20))[j] := by simp [rd, List.getD_eq_getElem?_getD, List.getElem?_eq_getElem c]
      rw [e]
      exact hb _ (List.mem_of_mem_take (List.getElem_mem c))
    · have e : rd (l.take (min l.length 20)) (j : Int) = 0 := by
        unfold rd
        rw [Int.toNat_natCast, List.getD_eq_getElem?_getD, List.getElem?_eq_none (by omega)]
        rfl
      rw [e]; omega
  generalize l.take (min l.length 20) = xs at hlen hx ⊢
  have h0 : WS (hi * 18446744073709551616 + 0) hi 0 none := by
    unfold WS
    rw [if_pos (by omega)]
    exact ⟨rfl, hhi.1, hhi.2, by omega, by omega, rfl⟩
  exact sums_l0 xs hi hhi hlen hx xs.length k 0 none none hi 0 hi 0 (by omega) (by omega) (by omega) h0 h0
theorem pure_proved : arrearslaw03_WideSums.Pure := fun l hi hl hb hhi => ⟨100, sums_all 100 l hi (Nat.le_refl _) hl hb hhi⟩

end Go.Proofs.YtfpbibfoipbahaaDoor.PWideSums
