/- The pure statement behind the law WideReckons, over numbers and lists alone. Conditions: those that the printed statement names (each number is of its kind). -/
import Derived.Test.YtfpbibfoipbahaaDoorDWideReckons
import Derived.Test.YtfpbibfoipbahaaDoorMwords64
import Derived.Lib.ItoaNum
set_option linter.unusedVariables false
set_option linter.unusedSimpArgs false
namespace Go.Proofs.YtfpbibfoipbahaaDoor.PWideReckons
open Go.RowKit Go.Proofs.YtfpbibfoipbahaaDoorW.PrintWords Go.Proofs.YtfpbibfoipbahaaDoorW.PrintLast Go.Proofs.YtfpbibfoipbahaaDoorW.PrintMore Go.Proofs.YtfpbibfoipbahaaDoor.M

theorem mul64_ok (a b : Int) (ha : 0 ≤ a ∧ a ≤ 18446744073709551615) (hb : 0 ≤ b ∧ b ≤ 18446744073709551615) : bits_Mul64.f a b = some (a * b / 18446744073709551616, a * b % 18446744073709551616) := by
  unfold bits_Mul64.f
  rw [and_mask32 a ha.1 (by omega), and_mask32 b hb.1 (by omega)]
  have h := mul_parts (a / 4294967296) (a % 4294967296) (b / 4294967296) (b % 4294967296) (by omega) (by omega) (by omega) (by omega)
  have ea : a / 4294967296 * 4294967296 + a % 4294967296 = a := by omega
  have eb : b / 4294967296 * 4294967296 + b % 4294967296 = b := by omega
  rw [ea, eb] at h
  have b2 : 0 ≤ a / 4294967296 * (b % 4294967296) ∧ a / 4294967296 * (b % 4294967296) ≤ 4294967295 * 4294967295 := ⟨Int.mul_nonneg (by omega) (by omega), Int.mul_le_mul (by omega) (by omega) (by omega) (by omega)⟩
  have b4 : 0 ≤ a % 4294967296 * (b % 4294967296) ∧ a % 4294967296 * (b % 4294967296) ≤ 4294967295 * 4294967295 := ⟨Int.mul_nonneg (by omega) (by omega), Int.mul_le_mul (by omega) (by omega) (by omega) (by omega)⟩
  have hm : Go.bits .and .u64 (IntKind.u64.wrap ((IntKind.u64.wrap ((a / 4294967296) * (b % 4294967296))) + ((IntKind.u64.wrap ((a % 4294967296) * (b % 4294967296))) / 4294967296))) 4294967295 = (IntKind.u64.wrap ((IntKind.u64.wrap ((a / 4294967296) * (b % 4294967296))) + ((IntKind.u64.wrap ((a % 4294967296) * (b % 4294967296))) / 4294967296))) % 4294967296 := by
    refine and_mask32 _ ?_ ?_ <;> rw [u64_wrap] <;> omega
  rw [hm, h, u64_wrap]
theorem mul_ok (a b : Int) (ha : 0 ≤ a ∧ a ≤ 18446744073709551615) (hb : 0 ≤ b ∧ b ≤ 18446744073709551615) : wide_Mul.f a b = some (a * b / 18446744073709551616, a * b % 18446744073709551616) := by
  unfold wide_Mul.f
  rw [mul64_ok a b ha hb]
  rfl
theorem zeros_ok (_k : Nat) (y : Int) (h0 : 0 < y) (h1 : y ≤ 18446744073709551615) :
    ∃ s : Nat, s ≤ 63 ∧ bits_LeadingZeros64.f y = some (s : Int) ∧ 9223372036854775808 ≤ y * 2 ^ s ∧ y * 2 ^ s < 18446744073709551616 := by
  obtain ⟨n, rfl⟩ := Int.eq_ofNat_of_zero_le (Int.le_of_lt h0)
  have hn : n < 2 ^ 64 := by have : (2 : Nat) ^ 64 = 18446744073709551616 := by decide
                             omega
  obtain ⟨b1, b2, b3⟩ := Go.Lib.bitLenAux_bounds 64 n hn (by omega)
  have b4 : Go.Lib.bitLenAux 64 n ≤ 64 := Go.Lib.bitLen_le n 64 (Nat.le_refl _) (by have : (2 : Nat) ^ 64 = 18446744073709551616 := by decide
                                                                                    omega)
  unfold bits_LeadingZeros64.f bits_Len64.f Go.Lib.bitLen
  rw [if_pos ⟨by omega, by omega⟩, Int.toNat_natCast]
  generalize Go.Lib.bitLenAux 64 n = L at b1 b2 b3 b4 ⊢
  refine ⟨64 - L, by omega, ?_, ?_, ?_⟩
  · simp only [Option.bind_some]
    refine congrArg some ?_
    unfold wrap64; omega
  · have e : (2 : Nat) ^ (L - 1) * 2 ^ (64 - L) = 9223372036854775808 := by
      rw [← Nat.pow_add, show L - 1 + (64 - L) = 63 by omega]
    have := Nat.mul_le_mul_right (2 ^ (64 - L)) b2
    rw [e] at this
    have h2 : ((2 : Int) ^ (64 - L)) = ((2 ^ (64 - L) : Nat) : Int) := by simp
    rw [h2, ← Int.natCast_mul]
    exact Int.ofNat_le.2 this
  · have e : (2 : Nat) ^ L * 2 ^ (64 - L) = 18446744073709551616 := by
      rw [← Nat.pow_add, show L + (64 - L) = 64 by omega]
    have := (Nat.mul_lt_mul_right (show 0 < 2 ^ (64 - L) from Nat.two_pow_pos _)).2 b3
    rw [e] at this
    have h2 : ((2 : Int) ^ (64 - L)) = ((2 ^ (64 - L) : Nat) : Int) := by simp
    rw [h2, ← Int.natCast_mul]
    exact Int.ofNat_lt.2 this
theorem digit2 {Y yn1 yn0 un21 un0 : Int} (s : Nat) (Q1 : Int) : ∀ (n k : Nat) (q rh : Int), Digit Y yn1 yn0 un21 un0 q rh → 4294967296 ≤ rh + n * 2147483648 → 2 * n + 4 < k →
    bits_Div64.l1 k Y (s : Int) yn1 yn0 un0 Q1 rh un21 q = some (IntKind.u64.wrap ((IntKind.u64.wrap (Q1 * 4294967296)) + (un21 * 4294967296 + un0) / Y), shr .u64 (IntKind.u64.wrap ((IntKind.u64.wrap ((IntKind.u64.wrap (un21 * 4294967296)) + un0)) - (IntKind.u64.wrap ((un21 * 4294967296 + un0) / Y * Y)))) (s : Int)) := by
  intro n
  induction n with
  | zero => intro k q rh d hn; have := d.hr0; omega
  | succ n ih =>
    intro k q rh d hn hk
    obtain ⟨k, rfl⟩ : ∃ m, k = m + 2 := ⟨k - 2, by omega⟩
    have h1 := d.h1; have hr0 := d.hr0; have hq := d.hq; have hf := d.fits
    have go : (un21 * 4294967296 + un0) / Y < q → bits_Div64.j4 (k + 1) Y (s : Int) yn1 yn0 un0 Q1 rh un21 q true = some (IntKind.u64.wrap ((IntKind.u64.wrap (Q1 * 4294967296)) + (un21 * 4294967296 + un0) / Y), shr .u64 (IntKind.u64.wrap ((IntKind.u64.wrap ((IntKind.u64.wrap (un21 * 4294967296)) + un0)) - (IntKind.u64.wrap ((un21 * 4294967296 + un0) / Y * Y)))) (s : Int)) := by
      intro hgt
      simp only [bits_Div64.j4, if_true]
      rw [u64_in (n := rh + yn1) (by omega) (by omega), u64_in (n := q - 1) (by omega) (by omega)]
      by_cases c : rh + yn1 ≥ 4294967296
      · rw [if_pos c, if_pos (by omega), d.last hgt c]
      · rw [if_neg c]
        exact ih k (q - 1) (rh + yn1) (d.less hgt (by omega)) (by omega) (by omega)
    have stop : ¬ (un21 * 4294967296 + un0) / Y < q → bits_Div64.j4 (k + 1) Y (s : Int) yn1 yn0 un0 Q1 rh un21 q false = some (IntKind.u64.wrap ((IntKind.u64.wrap (Q1 * 4294967296)) + (un21 * 4294967296 + un0) / Y), shr .u64 (IntKind.u64.wrap ((IntKind.u64.wrap ((IntKind.u64.wrap (un21 * 4294967296)) + un0)) - (IntKind.u64.wrap ((un21 * 4294967296 + un0) / Y * Y)))) (s : Int)) := by
      intro hle
      have e : q = (un21 * 4294967296 + un0) / Y := by omega
      simp only [bits_Div64.j4, Bool.false_eq_true, if_false]
      rw [if_pos (by omega), e]
    simp only [bits_Div64.l1]
    by_cases c1 : q ≥ 4294967296
    · rw [if_pos c1]; exact go (d.great c1)
    · rw [if_neg c1]
      by_cases c2 : (un21 * 4294967296 + un0) / Y < q
      · rw [decide_eq_true ((d.test (by omega)).2 c2)]; exact go c2
      · rw [decide_eq_false (fun h => c2 ((d.test (by omega)).1 h))]; exact stop c2
theorem digit1 {Y yn1 yn0 un32 un1 : Int} (s : Nat) (un0 : Int) : ∀ (n k : Nat) (q rh : Int), Digit Y yn1 yn0 un32 un1 q rh → 4294967296 ≤ rh + n * 2147483648 → 2 * n + 14 < k →
    ∃ k', 12 < k' ∧ bits_Div64.l0 k Y (s : Int) yn1 yn0 un32 un1 un0 q rh = bits_Div64.j2 k' Y (s : Int) yn1 yn0 un32 un1 un0 ((un32 * 4294967296 + un1) / Y) := by
  intro n
  induction n with
  | zero => intro k q rh d hn; have := d.hr0; omega
  | succ n ih =>
    intro k q rh d hn hk
    obtain ⟨k, rfl⟩ : ∃ m, k = m + 2 := ⟨k - 2, by omega⟩
    have h1 := d.h1; have hr0 := d.hr0; have hq := d.hq; have hf := d.fits
    have go : (un32 * 4294967296 + un1) / Y < q → ∃ k', 12 < k' ∧ bits_Div64.j1 (k + 1) Y (s : Int) yn1 yn0 un32 un1 un0 q rh true = bits_Div64.j2 k' Y (s : Int) yn1 yn0 un32 un1 un0 ((un32 * 4294967296 + un1) / Y) := by
      intro hgt
      simp only [bits_Div64.j1, if_true]
      rw [u64_in (n := rh + yn1) (by omega) (by omega), u64_in (n := q - 1) (by omega) (by omega)]
      by_cases c : rh + yn1 ≥ 4294967296
      · rw [if_pos c, d.last hgt c]
        exact ⟨k, by omega, rfl⟩
      · rw [if_neg c]
        exact ih k (q - 1) (rh + yn1) (d.less hgt (by omega)) (by omega) (by omega)
    have stop : ¬ (un32 * 4294967296 + un1) / Y < q → ∃ k', 12 < k' ∧ bits_Div64.j1 (k + 1) Y (s : Int) yn1 yn0 un32 un1 un0 q rh false = bits_Div64.j2 k' Y (s : Int) yn1 yn0 un32 un1 un0 ((un32 * 4294967296 + un1) / Y) := by
      intro hle
      have e : q = (un32 * 4294967296 + un1) / Y := by omega
      simp only [bits_Div64.j1, Bool.false_eq_true, if_false]
      rw [← e]
      exact ⟨k, by omega, rfl⟩
    simp only [bits_Div64.l0]
    by_cases c1 : q ≥ 4294967296
    · rw [if_pos c1]; exact go (d.great c1)
    · rw [if_neg c1]
      by_cases c2 : (un32 * 4294967296 + un1) / Y < q
      · rw [decide_eq_true ((d.test (by omega)).2 c2)]; exact go c2
      · rw [decide_eq_false (fun h => c2 ((d.test (by omega)).1 h))]; exact stop c2
theorem div64_ok (k : Nat) (hk : 30 ≤ k) (hi lo y : Int) (hhi : 0 ≤ hi ∧ hi < y) (hlo : 0 ≤ lo ∧ lo ≤ 18446744073709551615) (hy : y ≤ 18446744073709551615) :
    bits_Div64.f k hi lo y = some ((hi * 18446744073709551616 + lo) / y, (hi * 18446744073709551616 + lo) % y) := by
  unfold bits_Div64.f
  rw [if_neg (by omega), if_neg (by omega)]
  by_cases c0 : hi = 0
  · rw [if_pos c0, tdiv_nn hlo.1, tmod_nn hlo.1, c0]
    have hq0 : 0 ≤ lo / y := Int.ediv_nonneg hlo.1 (by omega)
    have hq1 : lo / y ≤ lo := Int.ediv_le_self y hlo.1
    rw [u64_in hq0 (by omega)]
    simp
  · rw [if_neg c0]
    obtain ⟨k, rfl⟩ : ∃ m, k = m + 1 := ⟨k - 1, by omega⟩
    obtain ⟨s, hs, e, l1, l2⟩ := zeros_ok k y (by omega) hy
    rw [e]
    simp only [Option.bind_some]
    have hw1 : IntKind.u64.wrap (s : Int) = (s : Int) := u64_in (by omega) (by omega)
    have hw2 : IntKind.u64.wrap (64 - (s : Int)) = ((64 - s : Nat) : Int) := by rw [u64_in (by omega) (by omega)]; omega
    rw [hw1, hw2, if_pos (by omega), if_pos (by omega)]
    obtain ⟨f1, f2, f3, f4, f5, f6, f7⟩ := shifted hs hhi ⟨hlo.1, by omega⟩ l2
    have hY : shl .u64 y (s : Int) = y * 2 ^ s := by rw [shl_eq y s hs]; exact Int.emod_eq_of_lt (by omega) l2
    rw [f1, f2, hY]
    have hP := two_pow_pos s
    generalize hYe : y * 2 ^ s = Y at *
    generalize hi * 2 ^ s + lo / 2 ^ (64 - s) = un32 at *
    generalize lo % 2 ^ (64 - s) * 2 ^ s = un10 at *
    rw [if_neg (by omega), and_mask32 Y (by omega) l2, and_mask32 un10 f5 f6, tdiv_nn f3]
    have d0 := Digit.start (Y := Y) (yn1 := Y / 4294967296) (yn0 := Y % 4294967296) (U := un32) (un1 := un10 / 4294967296) (by omega) (by omega) (by omega) ⟨f3, f4⟩ (by omega)
    have hq := d0.hq; have hr0 := d0.hr0
    have hz : 0 ≤ un32 / (Y / 4294967296) * (Y / 4294967296) := Int.mul_nonneg hq.2.1 (by omega)
    rw [u64_in hq.2.1 (by omega), u64_in hz (by omega), u64_in hr0.1 (by omega)]
    obtain ⟨k', hk', e1⟩ := digit1 s (un10 % 4294967296) 2 (k + 1) _ _ d0 (by omega) (by omega)
    rw [e1]
    have hYp := d0.pos
    have hf := d0.fits
    have hrest := digit_rest (un32 * 4294967296 + un10 / 4294967296) Y hYp
    obtain ⟨k', rfl⟩ : ∃ m, k' = m + 1 := ⟨k' - 1, by omega⟩
    simp only [bits_Div64.j2]
    rw [if_neg (by omega), rest_wrap _ _ _ _ hrest.1 (by omega)]
    generalize hQ1 : (un32 * 4294967296 + un10 / 4294967296) / Y = Q1 at *
    generalize hr1 : un32 * 4294967296 + un10 / 4294967296 - Q1 * Y = r1 at *
    rw [tdiv_nn hrest.1]
    have d2 := Digit.start (Y := Y) (yn1 := Y / 4294967296) (yn0 := Y % 4294967296) (U := r1) (un1 := un10 % 4294967296) (by omega) (by omega) (by omega) hrest (by omega)
    have hq2 := d2.hq; have hr2 := d2.hr0; have hf2 := d2.fits
    have hz2 : 0 ≤ r1 / (Y / 4294967296) * (Y / 4294967296) := Int.mul_nonneg hq2.2.1 (by omega)
    rw [u64_in hq2.2.1 (by omega), u64_in hz2 (by omega), u64_in hr2.1 (by omega)]
    rw [digit2 s Q1 2 k' _ _ d2 (by omega) (by omega)]
    have hrest2 := digit_rest (r1 * 4294967296 + un10 % 4294967296) Y hYp
    rw [rest_wrap _ _ _ _ hrest2.1 (by omega), shr_eq _ s (by omega), u64_in (n := Q1 * 4294967296) (by omega) (by omega), u64_in (by omega) (by omega)]
    obtain ⟨g1, g2⟩ := two_digits (T := hi * 18446744073709551616 + lo) (Y := Y) (un32 := un32) (un1 := un10 / 4294967296) (un0 := un10 % 4294967296) (P := 2 ^ s) (y := y) hP (by omega) hYe.symm (by rw [f7]; omega) (by omega) hQ1.symm hr1.symm rfl rfl
    rw [g1, g2]
theorem wdiv_ok (k : Nat) (hk : 30 ≤ k) (hi lo n : Int) (hhi : 0 ≤ hi ∧ hi ≤ 18446744073709551615) (hlo : 0 ≤ lo ∧ lo ≤ 18446744073709551615) (hn : 0 < n ∧ n ≤ 18446744073709551615) :
    wide_Wide_Div.f k hi lo n = some (hi / n, (hi % n * 18446744073709551616 + lo) / n, (hi % n * 18446744073709551616 + lo) % n, none) := by
  unfold wide_Wide_Div.f
  have m0 := Int.emod_nonneg hi (show n ≠ 0 by omega)
  have m1 := Int.emod_lt_of_pos hi hn.1
  rw [if_neg (by omega), tmod_nn hhi.1, tdiv_nn hhi.1, div64_ok k hk _ _ _ ⟨m0, m1⟩ hlo hn.2]
  simp only [Option.bind_some]
  have hq0 : 0 ≤ hi / n := Int.ediv_nonneg hhi.1 (by omega)
  have hq1 : hi / n ≤ hi := Int.ediv_le_self n hhi.1
  rw [u64_in hq0 (by omega)]
/-- The quotient of a number of two words. -/
theorem wide_quot (hi lo n : Int) (hn : 0 < n) : (hi * 18446744073709551616 + lo) / n = hi / n * 18446744073709551616 + (hi % n * 18446744073709551616 + lo) / n ∧ (hi * 18446744073709551616 + lo) % n = (hi % n * 18446744073709551616 + lo) % n := by
  have e := Int.mul_ediv_add_emod hi n
  have e2 : hi * 18446744073709551616 + lo = (hi % n * 18446744073709551616 + lo) + hi / n * 18446744073709551616 * n := by
    have : n * (hi / n) * 18446744073709551616 = hi / n * 18446744073709551616 * n := by ac_rfl
    omega
  constructor
  · rw [e2, Int.add_mul_ediv_right _ _ (by omega)]
    omega
  · rw [e2, Int.add_mul_emod_self_right]
theorem low_quot (hi lo n : Int) (hhi : 0 ≤ hi) (hlo : 0 ≤ lo ∧ lo ≤ 18446744073709551615) (hn : 0 < n) : 0 ≤ (hi % n * 18446744073709551616 + lo) / n ∧ (hi % n * 18446744073709551616 + lo) / n ≤ 18446744073709551615 := by
  have m0 := Int.emod_nonneg hi (show n ≠ 0 by omega)
  have m1 := Int.emod_lt_of_pos hi hn
  refine ⟨Int.ediv_nonneg (by omega) (by omega), ?_⟩
  have : (hi % n * 18446744073709551616 + lo) / n < 18446744073709551616 := Int.ediv_lt_of_lt_mul hn (by omega)
  omega
theorem prod_words (a b : Int) (ha : 0 ≤ a ∧ a ≤ 18446744073709551615) (hb : 0 ≤ b ∧ b ≤ 18446744073709551615) : 0 ≤ a * b / 18446744073709551616 ∧ a * b / 18446744073709551616 ≤ 18446744073709551614 ∧ 0 ≤ a * b % 18446744073709551616 ∧ a * b % 18446744073709551616 ≤ 18446744073709551615 ∧ 0 ≤ a * b := by
  have b1 : 0 ≤ a * b ∧ a * b ≤ 18446744073709551615 * 18446744073709551615 := ⟨Int.mul_nonneg ha.1 hb.1, Int.mul_le_mul ha.2 hb.2 hb.1 (by omega)⟩
  generalize a * b = p at *
  omega

/-- Scale: a product by a number: its quotient, what is left; or its errors. -/
theorem scale_ok (k : Nat) (hk : 30 ≤ k) (a b c : Int) (ha : 0 ≤ a ∧ a ≤ 18446744073709551615) (hb : 0 ≤ b ∧ b ≤ 18446744073709551615) (hc : 0 ≤ c ∧ c ≤ 18446744073709551615) :
    wide_Scale.f k a b c = some (if c = 0 then (0, 0, some 1) else if a * b / c ≤ 18446744073709551615 then (a * b / c, a * b % c, none) else (0, 0, some 12)) := by
  unfold wide_Scale.f
  obtain ⟨p1, p2, p3, p4, p5⟩ := prod_words a b ha hb
  rw [mul_ok a b ha hb]
  simp only [Option.bind_some]
  by_cases c0 : c = 0
  · rw [if_pos c0]
    unfold wide_Wide_Div.f
    rw [if_pos c0]
    rfl
  · rw [if_neg c0, wdiv_ok k hk _ _ c ⟨p1, by omega⟩ ⟨p3, p4⟩ ⟨by omega, hc.2⟩]
    obtain ⟨q1, q2⟩ := wide_quot (a * b / 18446744073709551616) (a * b % 18446744073709551616) c (by omega)
    have l := low_quot (a * b / 18446744073709551616) (a * b % 18446744073709551616) c p1 ⟨p3, p4⟩ (by omega)
    rw [show a * b / 18446744073709551616 * 18446744073709551616 + a * b % 18446744073709551616 = a * b by omega] at q1 q2
    have h0 : 0 ≤ a * b / 18446744073709551616 / c := Int.ediv_nonneg p1 (by omega)
    rw [q1, q2]
    simp only [Option.bind_some, Option.isNone_none, if_true]
    unfold wide_Wide_Small.f
    generalize a * b / 18446744073709551616 / c = Q at *
    generalize (a * b / 18446744073709551616 % c * 18446744073709551616 + a * b % 18446744073709551616) / c = R at *
    by_cases c1 : Q = 0
    · subst c1
      rw [if_pos rfl, if_pos (by omega)]
      simp
    · rw [if_neg c1, if_neg (by omega)]
      rfl

theorem awake_yes (k : Nat) (hk : 30 ≤ k) : arrearslaw03_awake.f k = some true := by
  unfold arrearslaw03_awake.f
  rw [scale_ok k hk 9223372036854775808 6 4 (by omega) (by omega) (by omega)]
  rfl

section
open Go.Proofs.YtfpbibfoipbahaaDoor.M
theorem dg_low (v : Nat) : ((dg v 3 * 65536 + dg v 2) * 65536 + dg v 1) * 65536 + dg v 0 = v % 18446744073709551616 := by
  unfold dg
  simp only [Nat.reducePow, Nat.div_one]
  omega
theorem dg_high (v : Nat) (hv : v < 2 ^ 128) : ((dg v 7 * 65536 + dg v 6) * 65536 + dg v 5) * 65536 + dg v 4 = v / 18446744073709551616 := by
  unfold dg
  simp only [Nat.reducePow] at *
  omega
theorem dg_bd (v k : Nat) : 0 ≤ ((dg v k : Nat) : Int) ∧ ((dg v k : Nat) : Int) ≤ 65535 := by
  have := dg_lt v k
  omega
theorem num8_of (v : Nat) (hv : v < 2 ^ 128) : num8 (dg v 0 : Nat) (dg v 1 : Nat) (dg v 2 : Nat) (dg v 3 : Nat) (dg v 4 : Nat) (dg v 5 : Nat) (dg v 6 : Nat) (dg v 7 : Nat) = v := by
  have h1 := dg_low v
  have h2 := dg_high v hv
  unfold num8
  generalize dg v 0 = d0, dg v 1 = d1, dg v 2 = d2, dg v 3 = d3, dg v 4 = d4, dg v 5 = d5, dg v 6 = d6, dg v 7 = d7 at *
  have h3 := Nat.div_add_mod v 18446744073709551616
  rw [← h1, ← h2] at h3
  omega
theorem refword_f (v : Nat) (hv : v < 2 ^ 128) (u : Bool) : arrearsref03_Word.f (dg v 0 : Nat) (dg v 1 : Nat) (dg v 2 : Nat) (dg v 3 : Nat) (dg v 4 : Nat) (dg v 5 : Nat) (dg v 6 : Nat) (dg v 7 : Nat) u = some (if u = true then ((v / 18446744073709551616 : Nat) : Int) else ((v % 18446744073709551616 : Nat) : Int)) := by
  unfold arrearsref03_Word.f
  rw [if_pos ⟨dg_bd v 0, dg_bd v 1, dg_bd v 2, dg_bd v 3, dg_bd v 4, dg_bd v 5, dg_bd v 6, dg_bd v 7⟩]
  cases u
  · rw [if_neg Bool.false_ne_true, if_neg Bool.false_ne_true, ← dg_low v]; simp
  · rw [if_pos rfl, if_pos rfl, ← dg_high v hv]; simp
theorem refdiv_f (v n : Nat) (hv : v < 2 ^ 128) (hn : 0 < n) (hn2 : n < 18446744073709551616) : arrearsref03_Div.f (dg v 0 : Nat) (dg v 1 : Nat) (dg v 2 : Nat) (dg v 3 : Nat) (dg v 4 : Nat) (dg v 5 : Nat) (dg v 6 : Nat) (dg v 7 : Nat) n = some (((dg (v / n) 0 : Nat) : Int), ((dg (v / n) 1 : Nat) : Int), ((dg (v / n) 2 : Nat) : Int), ((dg (v / n) 3 : Nat) : Int), ((dg (v / n) 4 : Nat) : Int), ((dg (v / n) 5 : Nat) : Int), ((dg (v / n) 6 : Nat) : Int), ((dg (v / n) 7 : Nat) : Int), ((v % n : Nat) : Int)) := by
  unfold arrearsref03_Div.f
  rw [if_pos ⟨dg_bd v 0, dg_bd v 1, dg_bd v 2, dg_bd v 3, dg_bd v 4, dg_bd v 5, dg_bd v 6, dg_bd v 7, by omega, by omega⟩, num8_of v hv, Int.toNat_natCast]
theorem refmul_f (a b : Nat) (ha : a < 18446744073709551616) (hb : b < 18446744073709551616) : arrearsref03_Mul.f a b = some (((dg (a * b) 0 : Nat) : Int), ((dg (a * b) 1 : Nat) : Int), ((dg (a * b) 2 : Nat) : Int), ((dg (a * b) 3 : Nat) : Int), ((dg (a * b) 4 : Nat) : Int), ((dg (a * b) 5 : Nat) : Int), ((dg (a * b) 6 : Nat) : Int), ((dg (a * b) 7 : Nat) : Int)) := by
  unfold arrearsref03_Mul.f
  rw [if_pos (by omega), Int.toNat_natCast, Int.toNat_natCast]
theorem prod_lt (a b : Nat) (ha : a < 18446744073709551616) (hb : b < 18446744073709551616) : a * b < 2 ^ 128 := by
  have h := Nat.mul_le_mul (Nat.le_of_lt_succ ha) (Nat.le_of_lt_succ hb)
  exact Nat.lt_of_le_of_lt h (by decide)
end

section
open Go.Proofs.YtfpbibfoipbahaaDoor.M
theorem dg_sum (u : Nat) (hu : u < 2 ^ 128) : u = dg u 0 + 65536 * (dg u 1 + 65536 * (dg u 2 + 65536 * (dg u 3 + 65536 * (dg u 4 + 65536 * (dg u 5 + 65536 * (dg u 6 + 65536 * dg u 7)))))) := by
  have h1 := dg_low u
  have h2 := dg_high u hu
  have h3 := Nat.div_add_mod u 18446744073709551616
  rw [← h1, ← h2] at h3
  omega
def sum9 (u v : Nat) : Nat → Nat := fun k => if k < 8 then dg u k + dg v k else 0
theorem V9_dg (u v : Nat) (hu : u < 2 ^ 128) (hv : v < 2 ^ 128) : V9 (sum9 u v) = u + v := by
  have h1 := dg_sum u hu
  have h2 := dg_sum v hv
  unfold V9 sum9
  simp only [Nat.reduceLT, if_true, if_false, Nat.lt_irrefl]
  generalize dg u 0 = a0, dg u 1 = a1, dg u 2 = a2, dg u 3 = a3, dg u 4 = a4, dg u 5 = a5, dg u 6 = a6, dg u 7 = a7 at *
  generalize dg v 0 = b0, dg v 1 = b1, dg v 2 = b2, dg v 3 = b3, dg v 4 = b4, dg v 5 = b5, dg v 6 = b6, dg v 7 = b7 at *
  omega
theorem cy8 (S : Nat → Nat) : V9 S / 65536 ^ 8 = S 8 + cy S 8 := by
  have s : ∀ x y k, (x + 65536 * y) / 65536 ^ (k + 1) = (x / 65536 + y) / 65536 ^ k := by
    intro x y k
    rw [Nat.pow_succ, Nat.mul_comm (65536 ^ k), ← Nat.div_div_eq_div_mul, show (x + 65536 * y) / 65536 = x / 65536 + y by omega]
  have a : ∀ c x y, c + (x + 65536 * y) = (x + c) + 65536 * y := by intros; omega
  unfold V9
  simp only [s, a, cy, Nat.add_zero, Nat.pow_zero, Nat.div_one]
  exact Nat.add_comm _ _
theorem refadd_f (u v : Nat) (hu : u < 2 ^ 128) (hv : v < 2 ^ 128) :
    arrearsref03_Add.f (dg u 0 : Nat) (dg u 1 : Nat) (dg u 2 : Nat) (dg u 3 : Nat) (dg u 4 : Nat) (dg u 5 : Nat) (dg u 6 : Nat) (dg u 7 : Nat) (dg v 0 : Nat) (dg v 1 : Nat) (dg v 2 : Nat) (dg v 3 : Nat) (dg v 4 : Nat) (dg v 5 : Nat) (dg v 6 : Nat) (dg v 7 : Nat)
      = some (((dg (u + v) 0 : Nat) : Int), ((dg (u + v) 1 : Nat) : Int), ((dg (u + v) 2 : Nat) : Int), ((dg (u + v) 3 : Nat) : Int), ((dg (u + v) 4 : Nat) : Int), ((dg (u + v) 5 : Nat) : Int), ((dg (u + v) 6 : Nat) : Int), ((dg (u + v) 7 : Nat) : Int), decide (u + v < 2 ^ 128)) := by
  have e := V9_dg u v hu hv
  have d0 := dg_cy (sum9 u v) 0 (by decide)
  have d1 := dg_cy (sum9 u v) 1 (by decide)
  have d2 := dg_cy (sum9 u v) 2 (by decide)
  have d3 := dg_cy (sum9 u v) 3 (by decide)
  have d4 := dg_cy (sum9 u v) 4 (by decide)
  have d5 := dg_cy (sum9 u v) 5 (by decide)
  have d6 := dg_cy (sum9 u v) 6 (by decide)
  have d7 := dg_cy (sum9 u v) 7 (by decide)
  have d8 := cy8 (sum9 u v)
  have ht : decide (u + v < 2 ^ 128) = (((cy (sum9 u v) 8 : Nat) : Int) == 0) := by
    rw [e, show sum9 u v 8 = 0 from rfl, Nat.zero_add] at d8
    rw [← d8, show ((65536 : Nat) ^ 8) = 2 ^ 128 from by decide]
    have q := Nat.div_eq_zero_iff (a := u + v) (b := 2 ^ 128)
    by_cases c : u + v < 2 ^ 128
    · rw [decide_eq_true c, Nat.div_eq_of_lt c]; rfl
    · rw [decide_eq_false c]
      have : 0 < (u + v) / 2 ^ 128 := Nat.div_pos (Nat.le_of_not_lt c) (by decide)
      symm
      rw [beq_eq_false_iff_ne]
      omega
  rw [e] at d0 d1 d2 d3 d4 d5 d6 d7
  unfold arrearsref03_Add.f
  rw [if_pos ⟨dg_bd u 0, dg_bd u 1, dg_bd u 2, dg_bd u 3, dg_bd u 4, dg_bd u 5, dg_bd u 6, dg_bd u 7, dg_bd v 0, dg_bd v 1, dg_bd v 2, dg_bd v 3, dg_bd v 4, dg_bd v 5, dg_bd v 6, dg_bd v 7⟩, ht, d0, d1, d2, d3, d4, d5, d6, d7]
  simp only [sum9, cy, Nat.reduceLT, if_true, Nat.add_zero, Int.natCast_emod, Int.natCast_add, Int.natCast_ediv, Int.cast_ofNat_Int, Int.natCast_zero, Int.add_zero]
theorem refof_f (hi lo : Nat) (h : hi < 18446744073709551616) (l : lo < 18446744073709551616) :
    arrearsref03_Of.f hi lo = some (((dg (hi * 18446744073709551616 + lo) 0 : Nat) : Int), ((dg (hi * 18446744073709551616 + lo) 1 : Nat) : Int), ((dg (hi * 18446744073709551616 + lo) 2 : Nat) : Int), ((dg (hi * 18446744073709551616 + lo) 3 : Nat) : Int), ((dg (hi * 18446744073709551616 + lo) 4 : Nat) : Int), ((dg (hi * 18446744073709551616 + lo) 5 : Nat) : Int), ((dg (hi * 18446744073709551616 + lo) 6 : Nat) : Int), ((dg (hi * 18446744073709551616 + lo) 7 : Nat) : Int)) := by
  unfold arrearsref03_Of.f
  rw [if_pos (by omega)]
  simp only [dg, Option.some.injEq, Prod.mk.injEq, Nat.reducePow, Nat.div_one]
  refine ⟨?_, ?_, ?_, ?_, ?_, ?_, ?_, ?_⟩ <;> omega
end


theorem refless_f (u v : Nat) (hu : u < 2 ^ 128) (hv : v < 2 ^ 128) :
    arrearsref03_Less.f (dg u 0 : Nat) (dg u 1 : Nat) (dg u 2 : Nat) (dg u 3 : Nat) (dg u 4 : Nat) (dg u 5 : Nat) (dg u 6 : Nat) (dg u 7 : Nat) (dg v 0 : Nat) (dg v 1 : Nat) (dg v 2 : Nat) (dg v 3 : Nat) (dg v 4 : Nat) (dg v 5 : Nat) (dg v 6 : Nat) (dg v 7 : Nat) = some (decide (u < v)) := by
  have h1 := dg_sum u hu
  have h2 := dg_sum v hv
  have a0 := dg_bd u 0
  have a1 := dg_bd u 1
  have a2 := dg_bd u 2
  have a3 := dg_bd u 3
  have a4 := dg_bd u 4
  have a5 := dg_bd u 5
  have a6 := dg_bd u 6
  have a7 := dg_bd u 7
  have b0 := dg_bd v 0
  have b1 := dg_bd v 1
  have b2 := dg_bd v 2
  have b3 := dg_bd v 3
  have b4 := dg_bd v 4
  have b5 := dg_bd v 5
  have b6 := dg_bd v 6
  have b7 := dg_bd v 7
  unfold arrearsref03_Less.f
  generalize dg u 0 = x0, dg u 1 = x1, dg u 2 = x2, dg u 3 = x3, dg u 4 = x4, dg u 5 = x5, dg u 6 = x6, dg u 7 = x7 at *
  generalize dg v 0 = y0, dg v 1 = y1, dg v 2 = y2, dg v 3 = y3, dg v 4 = y4, dg v 5 = y5, dg v 6 = y6, dg v 7 = y7 at *
  repeat' split
  all_goals (congr 1; first | (exact decide_eq_decide.2 (by omega)) | (symm; exact decide_eq_false (by omega)))
theorem plus_n (h l p q : Nat) (hh : h < 18446744073709551616) (hl : l < 18446744073709551616) (hp : p < 18446744073709551616) (hq : q < 18446744073709551616) :
    wide_Wide_Plus.f h l p q = if (h * 18446744073709551616 + l) + (p * 18446744073709551616 + q) < 2 ^ 128 then some (((((h * 18446744073709551616 + l) + (p * 18446744073709551616 + q)) / 18446744073709551616 : Nat) : Int), ((((h * 18446744073709551616 + l) + (p * 18446744073709551616 + q)) % 18446744073709551616 : Nat) : Int), none) else some (0, 0, some 12) := by
  unfold wide_Wide_Plus.f
  rw [if_pos (by omega)]
  by_cases c : (h * 18446744073709551616 + l) + (p * 18446744073709551616 + q) < 2 ^ 128
  · rw [if_pos c, if_pos (by omega)]
    have e1 : (h : Int) + p + ((l : Int) + q) / 18446744073709551616 = ((((h * 18446744073709551616 + l) + (p * 18446744073709551616 + q)) / 18446744073709551616 : Nat) : Int) := by omega
    have e2 : ((l : Int) + q) % 18446744073709551616 = ((((h * 18446744073709551616 + l) + (p * 18446744073709551616 + q)) % 18446744073709551616 : Nat) : Int) := by omega
    rw [e1, e2]
  · rw [if_neg c, if_neg (by omega)]
theorem same_n (s : Nat) (hs : s < 2 ^ 128) : arrearslaw03_same.f ((s / 18446744073709551616 : Nat) : Int) ((s % 18446744073709551616 : Nat) : Int) (dg s 0 : Nat) (dg s 1 : Nat) (dg s 2 : Nat) (dg s 3 : Nat) (dg s 4 : Nat) (dg s 5 : Nat) (dg s 6 : Nat) (dg s 7 : Nat) = some true := by
  unfold arrearslaw03_same.f
  rw [refword_f s hs true, refword_f s hs false]
  simp
theorem wdiv_n (k : Nat) (hk : 30 ≤ k) (h l n : Nat) (hh : h < 18446744073709551616) (hl : l < 18446744073709551616) (hn : 0 < n) (hn2 : n < 18446744073709551616) :
    wide_Wide_Div.f k h l n = some ((((h * 18446744073709551616 + l) / n / 18446744073709551616 : Nat) : Int), (((h * 18446744073709551616 + l) / n % 18446744073709551616 : Nat) : Int), (((h * 18446744073709551616 + l) % n : Nat) : Int), none) := by
  rw [wdiv_ok k hk h l n (by omega) (by omega) (by omega)]
  obtain ⟨q1, q2⟩ := wide_quot h l n (by omega)
  obtain ⟨r1, r2⟩ := low_quot h l n (by omega) (by omega) (by omega)
  have c1 : ((((h * 18446744073709551616 + l) / n : Nat)) : Int) = ((h : Int) * 18446744073709551616 + l) / n := by rw [Int.natCast_ediv, Int.natCast_add, Int.natCast_mul]; rfl
  have c2 : ((((h * 18446744073709551616 + l) % n : Nat)) : Int) = ((h : Int) * 18446744073709551616 + l) % n := by rw [Int.natCast_emod, Int.natCast_add, Int.natCast_mul]; rfl
  rw [c2, q2, Int.natCast_ediv, Int.natCast_emod, c1, q1]
  generalize ((h : Int) % n * 18446744073709551616 + l) / n = y at r1 r2 ⊢
  generalize (h : Int) / n = x
  have e1 : (x * 18446744073709551616 + y) / ((18446744073709551616 : Nat) : Int) = x := by omega
  have e2 : (x * 18446744073709551616 + y) % ((18446744073709551616 : Nat) : Int) = y := by omega
  rw [e1, e2]
theorem mul_n (a b : Nat) (ha : a < 18446744073709551616) (hb : b < 18446744073709551616) : wide_Mul.f a b = some (((a * b / 18446744073709551616 : Nat) : Int), ((a * b % 18446744073709551616 : Nat) : Int)) := by
  rw [mul_ok a b (by omega) (by omega), Int.natCast_ediv, Int.natCast_emod, Int.natCast_mul]
  rfl
theorem less_n (h l p q : Nat) (hh : h < 18446744073709551616) (hl : l < 18446744073709551616) (hp : p < 18446744073709551616) (hq : q < 18446744073709551616) :
    wide_Wide_Less.f h l p q = some (decide (h * 18446744073709551616 + l < p * 18446744073709551616 + q)) := by
  unfold wide_Wide_Less.f
  rw [if_pos (by omega)]
  congr 1
  exact decide_eq_decide.2 (by omega)
theorem j0_yes (k : Nat) (hk : 30 ≤ k) (a b c d n : Nat) (ha : a < 18446744073709551616) (hb : b < 18446744073709551616) (hc : c < 18446744073709551616) (hd : d < 18446744073709551616) (hn : n < 18446744073709551616) (u v : Nat) (eu : u = a * 18446744073709551616 + b) (ev : v = c * 18446744073709551616 + d) :
    arrearslaw03_WideReckons.j0 (k + 1) a c n false a b c d (dg u 0 : Nat) (dg u 1 : Nat) (dg u 2 : Nat) (dg u 3 : Nat) (dg u 4 : Nat) (dg u 5 : Nat) (dg u 6 : Nat) (dg u 7 : Nat) (dg v 0 : Nat) (dg v 1 : Nat) (dg v 2 : Nat) (dg v 3 : Nat) (dg v 4 : Nat) (dg v 5 : Nat) (dg v 6 : Nat) (dg v 7 : Nat) = some true := by
  have hu : u < 2 ^ 128 := by omega
  have hv : v < 2 ^ 128 := by omega
  have hm := prod_lt a c ha hc
  have hmul := mul_n a c ha hc
  have hrm := refmul_f a c ha hc
  have hsm := same_n (a * c) hm
  have hls := less_n a b c d ha hb hc hd
  have hrl := refless_f u v hu hv
  rw [← eu, ← ev] at hls
  rw [arrearslaw03_WideReckons.j0]
  rw [if_neg (by decide)]
  by_cases c0 : n = 0
  · subst c0
    unfold wide_Wide_Div.f
    rw [if_pos (show ((0 : Nat) : Int) = 0 from rfl)]
    simp only [Option.bind_some]
    rw [if_pos (show ((0 : Nat) : Int) = 0 from rfl)]
    simp only [api_Code.f, Option.bind_some, Option.getD_some, if_true]
    rw [hmul]
    simp only [Option.bind_some]
    rw [hrm]
    simp only [Option.bind_some]
    rw [hsm]
    simp only [Option.bind_some, if_true]
    rw [hls]
    simp only [Option.bind_some]
    rw [hrl]
    simp
  · have hdv := wdiv_n k hk a b n ha hb (by omega) hn
    rw [← eu] at hdv
    have hrd := refdiv_f u n hu (by omega) hn
    have hq : u / n < 2 ^ 128 := Nat.lt_of_le_of_lt (Nat.div_le_self _ _) hu
    have hsq := same_n (u / n) hq
    rw [hdv]
    simp only [Option.bind_some]
    rw [if_neg (show ¬ ((n : Nat) : Int) = 0 by omega), hrd]
    simp only [Option.bind_some, Option.isNone_none, if_true]
    rw [hsq]
    simp only [Option.bind_some, if_true]
    rw [hmul]
    simp only [Option.bind_some]
    rw [hrm]
    simp only [Option.bind_some]
    rw [hsm]
    simp only [Option.bind_some, if_true]
    rw [hls]
    simp only [Option.bind_some]
    rw [hrl]
    simp
theorem lt128 (a b : Nat) (ha : a < 18446744073709551616) (hb : b < 18446744073709551616) : a * 18446744073709551616 + b < 2 ^ 128 := by omega
theorem pure_proved : arrearslaw03_WideReckons.Pure := by
  intro a0 a1 a2 a3 a4 h0 h1 h2 h3 h4
  obtain ⟨a, rfl⟩ : ∃ a : Nat, a0 = a := ⟨a0.toNat, by omega⟩
  obtain ⟨b, rfl⟩ : ∃ a : Nat, a1 = a := ⟨a1.toNat, by omega⟩
  obtain ⟨c, rfl⟩ : ∃ a : Nat, a2 = a := ⟨a2.toNat, by omega⟩
  obtain ⟨d, rfl⟩ : ∃ a : Nat, a3 = a := ⟨a3.toNat, by omega⟩
  obtain ⟨n, rfl⟩ : ∃ a : Nat, a4 = a := ⟨a4.toNat, by omega⟩
  refine ⟨61, ?_⟩
  have ha : a < 18446744073709551616 := by omega
  have hb : b < 18446744073709551616 := by omega
  have hc : c < 18446744073709551616 := by omega
  have hd : d < 18446744073709551616 := by omega
  have hn : n < 18446744073709551616 := by omega
  clear h0 h1 h2 h3 h4
  have z0 : 0 * 18446744073709551616 + n = n := by omega
  have hu := lt128 a b ha hb
  have hv := lt128 c d hc hd
  have hn2 := lt128 0 n (by omega) hn
  rw [z0] at hn2
  have hp := plus_n a b c d ha hb hc hd
  have hp2 := plus_n a b 0 n ha hb (by omega) hn
  have ho := refof_f a b ha hb
  have ho2 := refof_f c d hc hd
  have ho3 := refof_f 0 n (by omega) hn
  have hj := fun u v eu ev => j0_yes 60 (by omega) a b c d n ha hb hc hd hn u v eu ev
  rw [z0] at hp2 ho3
  obtain ⟨u, eu⟩ : ∃ u, u = a * 18446744073709551616 + b := ⟨_, rfl⟩
  obtain ⟨v, ev⟩ : ∃ v, v = c * 18446744073709551616 + d := ⟨_, rfl⟩
  rw [← eu] at hu hp hp2 ho
  rw [← ev] at hv hp ho2
  replace hj := hj u v eu ev
  have hr := refadd_f u v hu hv
  have hr2 := refadd_f u n hu hn2
  have z : ((0 : Nat) : Int) = 0 := rfl
  rw [z] at hp2 ho3
  unfold arrearslaw03_WideReckons.f
  rw [awake_yes 61 (by omega)]
  simp only [Option.bind_some, if_true]
  rw [ho]
  simp only [Option.bind_some]
  rw [ho2]
  simp only [Option.bind_some]
  rw [hp, hr]
  unfold wide_Wide_Add.f
  rw [hp2, ho3]
  by_cases c1 : u + v < 2 ^ 128
  · have s1 := same_n (u + v) c1
    rw [if_pos c1, decide_eq_true c1]
    simp only [Option.bind_some]
    by_cases c2 : u + n < 2 ^ 128
    · have s2 := same_n (u + n) c2
      rw [if_pos c2]
      simp only [Option.bind_some]
      rw [hr2, decide_eq_true c2]
      simp only [Option.bind_some, Option.isNone_none, if_true, bne_self_eq_false, Bool.false_eq_true, if_false]
      rw [s1]
      simp only [Option.bind_some, if_true]
      rw [s2]
      simp only [Option.bind_some, if_true]
      exact hj
    · rw [if_neg c2]
      simp only [Option.bind_some]
      rw [hr2, decide_eq_false c2]
      simp only [Option.bind_some, Option.isNone_none, Option.isNone_some, if_true, bne_self_eq_false, Bool.false_eq_true, if_false]
      rw [s1]
      simp only [Option.bind_some, if_true, api_Code.f, Option.getD_some, bne_self_eq_false]
      exact hj
  · rw [if_neg c1, decide_eq_false c1]
    simp only [Option.bind_some]
    by_cases c2 : u + n < 2 ^ 128
    · have s2 := same_n (u + n) c2
      rw [if_pos c2]
      simp only [Option.bind_some]
      rw [hr2, decide_eq_true c2]
      simp only [Option.bind_some, Option.isNone_none, Option.isNone_some, if_true, bne_self_eq_false, Bool.false_eq_true, if_false]
      rw [s2]
      simp only [Option.bind_some, if_true, api_Code.f, Option.getD_some, beq_self_eq_true, Bool.not_true, Bool.or_self, Bool.false_eq_true, if_false]
      exact hj
    · rw [if_neg c2]
      simp only [Option.bind_some]
      rw [hr2, decide_eq_false c2]
      simp only [Option.bind_some, Option.isNone_some, bne_self_eq_false, Bool.false_eq_true, if_false, api_Code.f, Option.getD_some, if_true, beq_self_eq_true, Bool.not_true, Bool.or_self]
      exact hj

end Go.Proofs.YtfpbibfoipbahaaDoor.PWideReckons
