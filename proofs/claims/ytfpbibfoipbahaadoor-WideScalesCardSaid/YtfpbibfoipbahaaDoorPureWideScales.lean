/- The pure statement behind the law WideScales, over numbers and lists alone. Conditions: those that the printed statement names (each number is of its kind). -/
import Derived.Test.YtfpbibfoipbahaaDoorDWideScales
import Derived.Test.YtfpbibfoipbahaaDoorMwords64
import Derived.Lib.ItoaNum
set_option linter.unusedVariables false
set_option linter.unusedSimpArgs false
namespace Go.Proofs.YtfpbibfoipbahaaDoor.PWideScales
open Go.RowKit Go.Proofs.YtfpbibfoipbahaaDoorW.PrintWords Go.Proofs.YtfpbibfoipbahaaDoorW.PrintLast Go.Proofs.YtfpbibfoipbahaaDoorW.PrintMore Go.Proofs.YtfpbibfoipbahaaDoor.M

theorem mul64_ok (a b : Int) (ha : 0 ≤ a ∧ a ≤ 18446744073709551615) (hb : 0 ≤ b ∧ b ≤ 18446744073709551615) : bits_Mul64.f a b = some (a * b / 18446744073709551616, a * b % 18446744073709551616) := by
  unfold bits_Mul64.f
  rw [and_mask32 a ha.1 (by omega), and_mask32 b hb.1 (by omega)]
  have h := mul_parts (a / 4294967296) (a % 4294967296) (b / 4294967296) (b % 4294967296) (by omega) (by omega) (by omega) (by omega)
  have ea : a / 4294967296 * 4294967296 + a % 4294967296 = a := by omega
  have eb : b / 4294967296 * 4294967296 + b % 4294967296 = b := by omega
  rw [ea, eb] at h
  have b2 : 0 ≤ a / 4294967296 * (b % 4294967296) ∧ a / 4294967296 * (b % 4294967296) ≤ 4294967295 * 4294967295 := ⟨Int.mul_nonneg (by omega) (by omega), Int.mul_le_mul (by omega) (by omega) (by omega) (by omega)⟩
  have b4 : 0 ≤ a % 4294967296 * (b % 4294967296) ∧ a % 4294967296 * (b % 4294967296) ≤ 4294967295 * 4294967295 := ⟨Int.mul_nonneg (by omega) (by omega), Int.mul_le_mul (by omega) (by omega) (by omega) (by omega)⟩
  have hm : Go.bits .and .u64 (IntKind.u64.wrap ((IntKind.u64.wrap ((a / 4294967296) * (b % 4294967296))) + ((IntKind.u64.wrap ((a % 4294967296) * (b % 4294967296))) / 4294967296))) 4294967295 = (IntKind.u64.wrap ((IntKind.u64.wrap ((a / 4294967296) * (b % 4294967296))) + ((IntKind.u64.wrap ((a % 4294967296) * (b % 4294967296))) / 4294967296))) % 4294967296 := by
    refine and_mask32 _ ?_ ?_ <;> rw [u64_wrap] <;> omega
  rw [hm, h, u64_wrap]
theorem mul_ok (a b : Int) (ha : 0 ≤ a ∧ a ≤ 18446744073709551615) (hb : 0 ≤ b ∧ b ≤ 18446744073709551615) : wide_Mul.f a b = some (a * b / 18446744073709551616, a * b % 18446744073709551616) := by
  unfold wide_Mul.f
  rw [mul64_ok a b ha hb]
  rfl
theorem zeros_ok (_k : Nat) (y : Int) (h0 : 0 < y) (h1 : y ≤ 18446744073709551615) :
    ∃ s : Nat, s ≤ 63 ∧ bits_LeadingZeros64.f y = some (s : Int) ∧ 9223372036854775808 ≤ y * 2 ^ s ∧ y * 2 ^ s < 18446744073709551616 := by
  obtain ⟨n, rfl⟩ := Int.eq_ofNat_of_zero_le (Int.le_of_lt h0)
  have hn : n < 2 ^ 64 := by have : (2 : Nat) ^ 64 = 18446744073709551616 := by decide
                             omega
  obtain ⟨b1, b2, b3⟩ := Go.Lib.bitLenAux_bounds 64 n hn (by omega)
  have b4 : Go.Lib.bitLenAux 64 n ≤ 64 := Go.Lib.bitLen_le n 64 (Nat.le_refl _) (by have : (2 : Nat) ^ 64 = 18446744073709551616 := by decide
                                                                                    omega)
  unfold bits_LeadingZeros64.f bits_Len64.f Go.Lib.bitLen
  rw [if_pos ⟨by omega, by omega⟩, Int.toNat_natCast]
  generalize Go.Lib.bitLenAux 64 n = L at b1 b2 b3 b4 ⊢
  refine ⟨64 - L, by omega, ?_, ?_, ?_⟩
  · simp only [Option.bind_some]
    refine congrArg some ?_
    unfold wrap64; omega
  · have e : (2 : Nat) ^ (L - 1) * 2 ^ (64 - L) = 9223372036854775808 := by
      rw [← Nat.pow_add, show L - 1 + (64 - L) = 63 by omega]
    have := Nat.mul_le_mul_right (2 ^ (64 - L)) b2
    rw [e] at this
    have h2 : ((2 : Int) ^ (64 - L)) = ((2 ^ (64 - L) : Nat) : Int) := by simp
    rw [h2, ← Int.natCast_mul]
    exact Int.ofNat_le.2 this
  · have e : (2 : Nat) ^ L * 2 ^ (64 - L) = 18446744073709551616 := by
      rw [← Nat.pow_add, show L + (64 - L) = 64 by omega]
    have := (Nat.mul_lt_mul_right (show 0 < 2 ^ (64 - L) from Nat.two_pow_pos _)).2 b3
    rw [e] at this
    have h2 : ((2 : Int) ^ (64 - L)) = ((2 ^ (64 - L) : Nat) : Int) := by simp
    rw [h2, ← Int.natCast_mul]
    exact Int.ofNat_lt.2 this
theorem digit2 {Y yn1 yn0 un21 un0 : Int} (s : Nat) (Q1 : Int) : ∀ (n k : Nat) (q rh : Int), Digit Y yn1 yn0 un21 un0 q rh → 4294967296 ≤ rh + n * 2147483648 → 2 * n + 4 < k →
    bits_Div64.l1 k Y (s : Int) yn1 yn0 un0 Q1 rh un21 q = some (IntKind.u64.wrap ((IntKind.u64.wrap (Q1 * 4294967296)) + (un21 * 4294967296 + un0) / Y), shr .u64 (IntKind.u64.wrap ((IntKind.u64.wrap ((IntKind.u64.wrap (un21 * 4294967296)) + un0)) - (IntKind.u64.wrap ((un21 * 4294967296 + un0) / Y * Y)))) (s : Int)) := by
  intro n
  induction n with
  | zero => intro k q rh d hn; have := d.hr0; omega
  | succ n ih =>
    intro k q rh d hn hk
    obtain ⟨k, rfl⟩ : ∃ m, k = m + 2 := ⟨k - 2, by omega⟩
    have h1 := d.h1; have hr0 := d.hr0; have hq := d.hq; have hf := d.fits
    have go : (un21 * 4294967296 + un0) / Y < q → bits_Div64.j4 (k + 1) Y (s : Int) yn1 yn0 un0 Q1 rh un21 q true = some (IntKind.u64.wrap ((IntKind.u64.wrap (Q1 * 4294967296)) + (un21 * 4294967296 + un0) / Y), shr .u64 (IntKind.u64.wrap ((IntKind.u64.wrap ((IntKind.u64.wrap (un21 * 4294967296)) + un0)) - (IntKind.u64.wrap ((un21 * 4294967296 + un0) / Y * Y)))) (s : Int)) := by
      intro hgt
      simp only [bits_Div64.j4, if_true]
      rw [u64_in (n := rh + yn1) (by omega) (by omega), u64_in (n := q - 1) (by omega) (by omega)]
      by_cases c : rh + yn1 ≥ 4294967296
      · rw [if_pos c, if_pos (by omega), d.last hgt c]
      · rw [if_neg c]
        exact ih k (q - 1) (rh + yn1) (d.less hgt (by omega)) (by omega) (by omega)
    have stop : ¬ (un21 * 4294967296 + un0) / Y < q → bits_Div64.j4 (k + 1) Y (s : Int) yn1 yn0 un0 Q1 rh un21 q false = some (IntKind.u64.wrap ((IntKind.u64.wrap (Q1 * 4294967296)) + (un21 * 4294967296 + un0) / Y), shr .u64 (IntKind.u64.wrap ((IntKind.u64.wrap ((IntKind.u64.wrap (un21 * 4294967296)) + un0)) - (IntKind.u64.wrap ((un21 * 4294967296 + un0) / Y * Y)))) (s : Int)) := by
      intro hle
      have e : q = (un21 * 4294967296 + un0) / Y := by omega
      simp only [bits_Div64.j4, Bool.false_eq_true, if_false]
      rw [if_pos (by omega), e]
    simp only [bits_Div64.l1]
    by_cases c1 : q ≥ 4294967296
    · rw [if_pos c1]; exact go (d.great c1)
    · rw [if_neg c1]
      by_cases c2 : (un21 * 4294967296 + un0) / Y < q
      · rw [decide_eq_true ((d.test (by omega)).2 c2)]; exact go c2
      · rw [decide_eq_false (fun h => c2 ((d.test (by omega)).1 h))]; exact stop c2
theorem digit1 {Y yn1 yn0 un32 un1 : Int} (s : Nat) (un0 : Int) : ∀ (n k : Nat) (q rh : Int), Digit Y yn1 yn0 un32 un1 q rh → 4294967296 ≤ rh + n * 2147483648 → 2 * n + 14 < k →
    ∃ k', 12 < k' ∧ bits_Div64.l0 k Y (s : Int) yn1 yn0 un32 un1 un0 q rh = bits_Div64.j2 k' Y (s : Int) yn1 yn0 un32 un1 un0 ((un32 * 4294967296 + un1) / Y) := by
  intro n
  induction n with
  | zero => intro k q rh d hn; have := d.hr0; omega
  | succ n ih =>
    intro k q rh d hn hk
    obtain ⟨k, rfl⟩ : ∃ m, k = m + 2 := ⟨k - 2, by omega⟩
    have h1 := d.h1; have hr0 := d.hr0; have hq := d.hq; have hf := d.fits
    have go : (un32 * 4294967296 + un1) / Y < q → ∃ k', 12 < k' ∧ bits_Div64.j1 (k + 1) Y (s : Int) yn1 yn0 un32 un1 un0 q rh true = bits_Div64.j2 k' Y (s : Int) yn1 yn0 un32 un1 un0 ((un32 * 4294967296 + un1) / Y) := by
      intro hgt
      simp only [bits_Div64.j1, if_true]
      rw [u64_in (n := rh + yn1) (by omega) (by omega), u64_in (n := q - 1) (by omega) (by omega)]
      by_cases c : rh + yn1 ≥ 4294967296
      · rw [if_pos c, d.last hgt c]
        exact ⟨k, by omega, rfl⟩
      · rw [if_neg c]
        exact ih k (q - 1) (rh + yn1) (d.less hgt (by omega)) (by omega) (by omega)
    have stop : ¬ (un32 * 4294967296 + un1) / Y < q → ∃ k', 12 < k' ∧ bits_Div64.j1 (k + 1) Y (s : Int) yn1 yn0 un32 un1 un0 q rh false = bits_Div64.j2 k' Y (s : Int) yn1 yn0 un32 un1 un0 ((un32 * 4294967296 + un1) / Y) := by
      intro hle
      have e : q = (un32 * 4294967296 + un1) / Y := by omega
      simp only [bits_Div64.j1, Bool.false_eq_true, if_false]
      rw [← e]
      exact ⟨k, by omega, rfl⟩
    simp only [bits_Div64.l0]
    by_cases c1 : q ≥ 4294967296
    · rw [if_pos c1]; exact go (d.great c1)
    · rw [if_neg c1]
      by_cases c2 : (un32 * 4294967296 + un1) / Y < q
      · rw [decide_eq_true ((d.test (by omega)).2 c2)]; exact go c2
      · rw [decide_eq_false (fun h => c2 ((d.test (by omega)).1 h))]; exact stop c2
theorem div64_ok (k : Nat) (hk : 30 ≤ k) (hi lo y : Int) (hhi : 0 ≤ hi ∧ hi < y) (hlo : 0 ≤ lo ∧ lo ≤ 18446744073709551615) (hy : y ≤ 18446744073709551615) :
    bits_Div64.f k hi lo y = some ((hi * 18446744073709551616 + lo) / y, (hi * 18446744073709551616 + lo) % y) := by
  unfold bits_Div64.f
  rw [if_neg (by omega), if_neg (by omega)]
  by_cases c0 : hi = 0
  · rw [if_pos c0, tdiv_nn hlo.1, tmod_nn hlo.1, c0]
    have hq0 : 0 ≤ lo / y := Int.ediv_nonneg hlo.1 (by omega)
    have hq1 : lo / y ≤ lo := Int.ediv_le_self y hlo.1
    rw [u64_in hq0 (by omega)]
    simp
  · rw [if_neg c0]
    obtain ⟨k, rfl⟩ : ∃ m, k = m + 1 := ⟨k - 1, by omega⟩
    obtain ⟨s, hs, e, l1, l2⟩ := zeros_ok k y (by omega) hy
    rw [e]
    simp only [Option.bind_some]
    have hw1 : IntKind.u64.wrap (s : Int) = (s : Int) := u64_in (by omega) (by omega)
    have hw2 : IntKind.u64.wrap (64 - (s : Int)) = ((64 - s : Nat) : Int) := by rw [u64_in (by omega) (by omega)]; omega
    rw [hw1, hw2, if_pos (by omega), if_pos (by omega)]
    obtain ⟨f1, f2, f3, f4, f5, f6, f7⟩ := shifted hs hhi ⟨hlo.1, by omega⟩ l2
    have hY : shl .u64 y (s : Int) = y * 2 ^ s := by rw [shl_eq y s hs]; exact Int.emod_eq_of_lt (by omega) l2
    rw [f1, f2, hY]
    have hP := two_pow_pos s
    generalize hYe : y * 2 ^ s = Y at *
    generalize hi * 2 ^ s + lo / 2 ^ (64 - s) = un32 at *
    generalize lo % 2 ^ (64 - s) * 2 ^ s = un10 at *
    rw [if_neg (by omega), and_mask32 Y (by omega) l2, and_mask32 un10 f5 f6, tdiv_nn f3]
    have d0 := Digit.start (Y := Y) (yn1 := Y / 4294967296) (yn0 := Y % 4294967296) (U := un32) (un1 := un10 / 4294967296) (by omega) (by omega) (by omega) ⟨f3, f4⟩ (by omega)
    have hq := d0.hq; have hr0 := d0.hr0
    have hz : 0 ≤ un32 / (Y / 4294967296) * (Y / 4294967296) := Int.mul_nonneg hq.2.1 (by omega)
    rw [u64_in hq.2.1 (by omega), u64_in hz (by omega), u64_in hr0.1 (by omega)]
    obtain ⟨k', hk', e1⟩ := digit1 s (un10 % 4294967296) 2 (k + 1) _ _ d0 (by omega) (by omega)
    rw [e1]
    have hYp := d0.pos
    have hf := d0.fits
    have hrest := digit_rest (un32 * 4294967296 + un10 / 4294967296) Y hYp
    obtain ⟨k', rfl⟩ : ∃ m, k' = m + 1 := ⟨k' - 1, by omega⟩
    simp only [bits_Div64.j2]
    rw [if_neg (by omega), rest_wrap _ _ _ _ hrest.1 (by omega)]
    generalize hQ1 : (un32 * 4294967296 + un10 / 4294967296) / Y = Q1 at *
    generalize hr1 : un32 * 4294967296 + un10 / 4294967296 - Q1 * Y = r1 at *
    rw [tdiv_nn hrest.1]
    have d2 := Digit.start (Y := Y) (yn1 := Y / 4294967296) (yn0 := Y % 4294967296) (U := r1) (un1 := un10 % 4294967296) (by omega) (by omega) (by omega) hrest (by omega)
    have hq2 := d2.hq; have hr2 := d2.hr0; have hf2 := d2.fits
    have hz2 : 0 ≤ r1 / (Y / 4294967296) * (Y / 4294967296) := Int.mul_nonneg hq2.2.1 (by omega)
    rw [u64_in hq2.2.1 (by omega), u64_in hz2 (by omega), u64_in hr2.1 (by omega)]
    rw [digit2 s Q1 2 k' _ _ d2 (by omega) (by omega)]
    have hrest2 := digit_rest (r1 * 4294967296 + un10 % 4294967296) Y hYp
    rw [rest_wrap _ _ _ _ hrest2.1 (by omega), shr_eq _ s (by omega), u64_in (n := Q1 * 4294967296) (by omega) (by omega), u64_in (by omega) (by omega)]
    obtain ⟨g1, g2⟩ := two_digits (T := hi * 18446744073709551616 + lo) (Y := Y) (un32 := un32) (un1 := un10 / 4294967296) (un0 := un10 % 4294967296) (P := 2 ^ s) (y := y) hP (by omega) hYe.symm (by rw [f7]; omega) (by omega) hQ1.symm hr1.symm rfl rfl
    rw [g1, g2]
theorem wdiv_ok (k : Nat) (hk : 30 ≤ k) (hi lo n : Int) (hhi : 0 ≤ hi ∧ hi ≤ 18446744073709551615) (hlo : 0 ≤ lo ∧ lo ≤ 18446744073709551615) (hn : 0 < n ∧ n ≤ 18446744073709551615) :
    wide_Wide_Div.f k hi lo n = some (hi / n, (hi % n * 18446744073709551616 + lo) / n, (hi % n * 18446744073709551616 + lo) % n, none) := by
  unfold wide_Wide_Div.f
  have m0 := Int.emod_nonneg hi (show n ≠ 0 by omega)
  have m1 := Int.emod_lt_of_pos hi hn.1
  rw [if_neg (by omega), tmod_nn hhi.1, tdiv_nn hhi.1, div64_ok k hk _ _ _ ⟨m0, m1⟩ hlo hn.2]
  simp only [Option.bind_some]
  have hq0 : 0 ≤ hi / n := Int.ediv_nonneg hhi.1 (by omega)
  have hq1 : hi / n ≤ hi := Int.ediv_le_self n hhi.1
  rw [u64_in hq0 (by omega)]
/-- The quotient of a number of two words. -/
theorem wide_quot (hi lo n : Int) (hn : 0 < n) : (hi * 18446744073709551616 + lo) / n = hi / n * 18446744073709551616 + (hi % n * 18446744073709551616 + lo) / n ∧ (hi * 18446744073709551616 + lo) % n = (hi % n * 18446744073709551616 + lo) % n := by
  have e := Int.mul_ediv_add_emod hi n
  have e2 : hi * 18446744073709551616 + lo = (hi % n * 18446744073709551616 + lo) + hi / n * 18446744073709551616 * n := by
    have : n * (hi / n) * 18446744073709551616 = hi / n * 18446744073709551616 * n := by ac_rfl
    omega
  constructor
  · rw [e2, Int.add_mul_ediv_right _ _ (by omega)]
    omega
  · rw [e2, Int.add_mul_emod_self_right]
theorem low_quot (hi lo n : Int) (hhi : 0 ≤ hi) (hlo : 0 ≤ lo ∧ lo ≤ 18446744073709551615) (hn : 0 < n) : 0 ≤ (hi % n * 18446744073709551616 + lo) / n ∧ (hi % n * 18446744073709551616 + lo) / n ≤ 18446744073709551615 := by
  have m0 := Int.emod_nonneg hi (show n ≠ 0 by omega)
  have m1 := Int.emod_lt_of_pos hi hn
  refine ⟨Int.ediv_nonneg (by omega) (by omega), ?_⟩
  have : (hi % n * 18446744073709551616 + lo) / n < 18446744073709551616 := Int.ediv_lt_of_lt_mul hn (by omega)
  omega
theorem prod_words (a b : Int) (ha : 0 ≤ a ∧ a ≤ 18446744073709551615) (hb : 0 ≤ b ∧ b ≤ 18446744073709551615) : 0 ≤ a * b / 18446744073709551616 ∧ a * b / 18446744073709551616 ≤ 18446744073709551614 ∧ 0 ≤ a * b % 18446744073709551616 ∧ a * b % 18446744073709551616 ≤ 18446744073709551615 ∧ 0 ≤ a * b := by
  have b1 : 0 ≤ a * b ∧ a * b ≤ 18446744073709551615 * 18446744073709551615 := ⟨Int.mul_nonneg ha.1 hb.1, Int.mul_le_mul ha.2 hb.2 hb.1 (by omega)⟩
  generalize a * b = p at *
  omega

/-- Scale: a product by a number: its quotient, what is left; or its errors. -/
theorem scale_ok (k : Nat) (hk : 30 ≤ k) (a b c : Int) (ha : 0 ≤ a ∧ a ≤ 18446744073709551615) (hb : 0 ≤ b ∧ b ≤ 18446744073709551615) (hc : 0 ≤ c ∧ c ≤ 18446744073709551615) :
    wide_Scale.f k a b c = some (if c = 0 then (0, 0, some 1) else if a * b / c ≤ 18446744073709551615 then (a * b / c, a * b % c, none) else (0, 0, some 12)) := by
  unfold wide_Scale.f
  obtain ⟨p1, p2, p3, p4, p5⟩ := prod_words a b ha hb
  rw [mul_ok a b ha hb]
  simp only [Option.bind_some]
  by_cases c0 : c = 0
  · rw [if_pos c0]
    unfold wide_Wide_Div.f
    rw [if_pos c0]
    rfl
  · rw [if_neg c0, wdiv_ok k hk _ _ c ⟨p1, by omega⟩ ⟨p3, p4⟩ ⟨by omega, hc.2⟩]
    obtain ⟨q1, q2⟩ := wide_quot (a * b / 18446744073709551616) (a * b % 18446744073709551616) c (by omega)
    have l := low_quot (a * b / 18446744073709551616) (a * b % 18446744073709551616) c p1 ⟨p3, p4⟩ (by omega)
    rw [show a * b / 18446744073709551616 * 18446744073709551616 + a * b % 18446744073709551616 = a * b by omega] at q1 q2
    have h0 : 0 ≤ a * b / 18446744073709551616 / c := Int.ediv_nonneg p1 (by omega)
    rw [q1, q2]
    simp only [Option.bind_some, Option.isNone_none, if_true]
    unfold wide_Wide_Small.f
    generalize a * b / 18446744073709551616 / c = Q at *
    generalize (a * b / 18446744073709551616 % c * 18446744073709551616 + a * b % 18446744073709551616) / c = R at *
    by_cases c1 : Q = 0
    · subst c1
      rw [if_pos rfl, if_pos (by omega)]
      simp
    · rw [if_neg c1, if_neg (by omega)]
      rfl

theorem awake_yes (k : Nat) (hk : 30 ≤ k) : arrearslaw03_awake.f k = some true := by
  unfold arrearslaw03_awake.f
  rw [scale_ok k hk 9223372036854775808 6 4 (by omega) (by omega) (by omega)]
  rfl

section
open Go.Proofs.YtfpbibfoipbahaaDoor.M
theorem dg_low (v : Nat) : ((dg v 3 * 65536 + dg v 2) * 65536 + dg v 1) * 65536 + dg v 0 = v % 18446744073709551616 := by
  unfold dg
  simp only [Nat.reducePow, Nat.div_one]
  omega
theorem dg_high (v : Nat) (hv : v < 2 ^ 128) : ((dg v 7 * 65536 + dg v 6) * 65536 + dg v 5) * 65536 + dg v 4 = v / 18446744073709551616 := by
  unfold dg
  simp only [Nat.reducePow] at *
  omega
theorem dg_bd (v k : Nat) : 0 ≤ ((dg v k : Nat) : Int) ∧ ((dg v k : Nat) : Int) ≤ 65535 := by
  have := dg_lt v k
  omega
theorem num8_of (v : Nat) (hv : v < 2 ^ 128) : num8 (dg v 0 : Nat) (dg v 1 : Nat) (dg v 2 : Nat) (dg v 3 : Nat) (dg v 4 : Nat) (dg v 5 : Nat) (dg v 6 : Nat) (dg v 7 : Nat) = v := by
  have h1 := dg_low v
  have h2 := dg_high v hv
  unfold num8
  generalize dg v 0 = d0, dg v 1 = d1, dg v 2 = d2, dg v 3 = d3, dg v 4 = d4, dg v 5 = d5, dg v 6 = d6, dg v 7 = d7 at *
  have h3 := Nat.div_add_mod v 18446744073709551616
  rw [← h1, ← h2] at h3
  omega
theorem refword_f (v : Nat) (hv : v < 2 ^ 128) (u : Bool) : arrearsref03_Word.f (dg v 0 : Nat) (dg v 1 : Nat) (dg v 2 : Nat) (dg v 3 : Nat) (dg v 4 : Nat) (dg v 5 : Nat) (dg v 6 : Nat) (dg v 7 : Nat) u = some (if u = true then ((v / 18446744073709551616 : Nat) : Int) else ((v % 18446744073709551616 : Nat) : Int)) := by
  unfold arrearsref03_Word.f
  rw [if_pos ⟨dg_bd v 0, dg_bd v 1, dg_bd v 2, dg_bd v 3, dg_bd v 4, dg_bd v 5, dg_bd v 6, dg_bd v 7⟩]
  cases u
  · rw [if_neg Bool.false_ne_true, if_neg Bool.false_ne_true, ← dg_low v]; simp
  · rw [if_pos rfl, if_pos rfl, ← dg_high v hv]; simp
theorem refdiv_f (v n : Nat) (hv : v < 2 ^ 128) (hn : 0 < n) (hn2 : n < 18446744073709551616) : arrearsref03_Div.f (dg v 0 : Nat) (dg v 1 : Nat) (dg v 2 : Nat) (dg v 3 : Nat) (dg v 4 : Nat) (dg v 5 : Nat) (dg v 6 : Nat) (dg v 7 : Nat) n = some (((dg (v / n) 0 : Nat) : Int), ((dg (v / n) 1 : Nat) : Int), ((dg (v / n) 2 : Nat) : Int), ((dg (v / n) 3 : Nat) : Int), ((dg (v / n) 4 : Nat) : Int), ((dg (v / n) 5 : Nat) : Int), ((dg (v / n) 6 : Nat) : Int), ((dg (v / n) 7 : Nat) : Int), ((v % n : Nat) : Int)) := by
  unfold arrearsref03_Div.f
  rw [if_pos ⟨dg_bd v 0, dg_bd v 1, dg_bd v 2, dg_bd v 3, dg_bd v 4, dg_bd v 5, dg_bd v 6, dg_bd v 7, by omega, by omega⟩, num8_of v hv, Int.toNat_natCast]
theorem refmul_f (a b : Nat) (ha : a < 18446744073709551616) (hb : b < 18446744073709551616) : arrearsref03_Mul.f a b = some (((dg (a * b) 0 : Nat) : Int), ((dg (a * b) 1 : Nat) : Int), ((dg (a * b) 2 : Nat) : Int), ((dg (a * b) 3 : Nat) : Int), ((dg (a * b) 4 : Nat) : Int), ((dg (a * b) 5 : Nat) : Int), ((dg (a * b) 6 : Nat) : Int), ((dg (a * b) 7 : Nat) : Int)) := by
  unfold arrearsref03_Mul.f
  rw [if_pos (by omega), Int.toNat_natCast, Int.toNat_natCast]
theorem prod_lt (a b : Nat) (ha : a < 18446744073709551616) (hb : b < 18446744073709551616) : a * b < 2 ^ 128 := by
  have h := Nat.mul_le_mul (Nat.le_of_lt_succ ha) (Nat.le_of_lt_succ hb)
  exact Nat.lt_of_le_of_lt h (by decide)
end

section
open Go.Proofs.YtfpbibfoipbahaaDoor.M
/-- The reference's Scale. -/
theorem refscale_ok (a b c : Int) (ha : 0 ≤ a ∧ a ≤ 18446744073709551615) (hb : 0 ≤ b ∧ b ≤ 18446744073709551615) (hc : 0 ≤ c ∧ c ≤ 18446744073709551615) :
    arrearsref03_Scale.f a b c = some (if c = 0 then (0, 0, 1) else if a * b / c ≤ 18446744073709551615 then (a * b / c, a * b % c, 0) else (0, 0, 12)) := by
  unfold arrearsref03_Scale.f
  by_cases c0 : c = 0
  · rw [if_pos c0, if_pos c0]
  · rw [if_neg c0, if_neg c0]
    obtain ⟨x, rfl⟩ := Int.eq_ofNat_of_zero_le ha.1
    obtain ⟨y, rfl⟩ := Int.eq_ofNat_of_zero_le hb.1
    obtain ⟨n, rfl⟩ := Int.eq_ofNat_of_zero_le hc.1
    have hx : x < 18446744073709551616 := by omega
    have hy : y < 18446744073709551616 := by omega
    have hp := prod_lt x y hx hy
    have hq : x * y / n < 2 ^ 128 := Nat.lt_of_le_of_lt (Nat.div_le_self _ _) hp
    rw [refmul_f x y hx hy]
    simp only [Option.bind_some]
    rw [refdiv_f (x * y) n hp (by omega) (by omega)]
    simp only [Option.bind_some]
    rw [refword_f _ hq true, refword_f _ hq false]
    simp only [Option.bind_some, if_true, Bool.false_eq_true, if_false]
    rw [show ((x : Int) * y / n) = ((x * y / n : Nat) : Int) by rw [Int.natCast_ediv, Int.natCast_mul], show ((x : Int) * y % n) = ((x * y % n : Nat) : Int) by rw [Int.natCast_emod, Int.natCast_mul]]
    generalize x * y / n = q
    by_cases c1 : (q : Int) ≤ 18446744073709551615
    · rw [if_neg (by omega), if_pos c1, show ((q % 18446744073709551616 : Nat) : Int) = q by omega]
    · rw [if_pos (by omega), if_neg c1]
end

theorem half_wrap (c l : Int) (hc : 0 ≤ c ∧ c ≤ 18446744073709551615) (hl : 0 ≤ l ∧ l < c) : IntKind.u64.wrap (c - l) = c - l := u64_in (by omega) (by omega)
theorem pure_proved : arrearslaw03_WideScales.Pure := by
  intro a b c ha hb hc
  refine ⟨60, ?_⟩
  unfold arrearslaw03_WideScales.f
  rw [awake_yes 60 (by omega), scale_ok 60 (by omega) a b c ha hb hc, refscale_ok a b c ha hb hc]
  simp only [Option.bind_some, if_true]
  by_cases c0 : c = 0
  · rw [if_pos c0, if_pos c0]
    simp only [api_Code.f, Option.bind_some, Option.getD_some, if_true, bne_self_eq_false]
    simp only [arrearslaw03_WideScales.j0, wide_Round.f, Bool.false_eq_true, if_false]
    rw [scale_ok 59 (by omega) a b c ha hb hc, if_pos c0]
    simp only [Option.bind_some, Option.isNone_some, Bool.false_eq_true, if_false, Option.getD_some, wide_Round.j0, if_true, api_Code.f, show ((1 : Int) = 0) = False by decide]
    rfl
  · rw [if_neg c0, if_neg c0]
    have hp := prod_words a b ha hb
    have l0 := Int.emod_nonneg (a * b) c0
    have l1 := Int.emod_lt_of_pos (a * b) (show 0 < c by omega)
    have q0 : 0 ≤ a * b / c := Int.ediv_nonneg hp.2.2.2.2 (by omega)
    have hs := scale_ok 59 (by omega) a b c ha hb hc
    rw [if_neg c0] at hs
    generalize a * b / c = q at *
    generalize a * b % c = l at *
    by_cases c1 : q ≤ 18446744073709551615
    · rw [if_pos c1] at hs
      rw [if_pos c1, if_pos c1]
      have hw := half_wrap c l hc ⟨l0, l1⟩
      simp only [api_Code.f, Option.bind_some, Option.getD_none, if_true, bne_self_eq_false]
      simp only [arrearslaw03_WideScales.j0, wide_Round.f, Bool.false_eq_true, if_false]
      rw [hs]
      simp only [Option.bind_some, Option.isNone_none, if_true, wide_Round.j0, Bool.false_eq_true, if_false]
      rw [hw]
      by_cases c2 : l < c - l
      · rw [decide_eq_true c2]
        simp only [if_true, Option.bind_some]
        rw [if_neg (show ¬ l ≥ c - l by omega)]
        simp only [arrearslaw03_WideScales.j1, Bool.false_eq_true, if_false, if_true, decide_eq_false (show ¬ l ≥ c - l by omega), Option.isNone_none, beq_self_eq_true]
      · rw [decide_eq_false c2]
        simp only [Bool.false_eq_true, if_false, decide_eq_true (show l ≥ c - l by omega)]
        by_cases c3 : q = 18446744073709551615
        · have e : IntKind.u64.wrap (q + 1) = 0 := by rw [u64_wrap]; omega
          rw [e, if_pos rfl, c3]
          simp only [Option.bind_some]
          rw [if_pos (show l ≥ c - l by omega)]
          rfl
        · have e : IntKind.u64.wrap (q + 1) = q + 1 := u64_in (by omega) (by omega)
          rw [e, if_neg (show ¬ q + 1 = 0 by omega)]
          simp only [Option.bind_some]
          rw [if_pos (show l ≥ c - l by omega)]
          simp only [arrearslaw03_WideScales.j1, show (q == 18446744073709551615) = false from by simpa using c3, Bool.false_eq_true, if_false, if_true, Option.isNone_none, e, beq_self_eq_true]
    · rw [if_neg c1] at hs
      rw [if_neg c1, if_neg c1]
      simp only [api_Code.f, Option.bind_some, Option.getD_some, if_true, bne_self_eq_false]
      simp only [arrearslaw03_WideScales.j0, wide_Round.f, Bool.false_eq_true, if_false]
      rw [hs]
      simp only [Option.bind_some, Option.isNone_some, Bool.false_eq_true, if_false, Option.getD_some, wide_Round.j0, if_true, api_Code.f, show ((12 : Int) = 0) = False by decide]
      rfl

end Go.Proofs.YtfpbibfoipbahaaDoor.PWideScales
