/- The pure statement behind the law LevelRows, over numbers and lists alone. Conditions: those that the printed statement names (each number is of its kind). -/
import Derived.Test.YtoclgoknednjgaaDoorDLevelRows
import Derived.Test.YtoclgoknednjgaaDoorMwords64
import Derived.Test.YtoclgoknednjgaaDoorMlvl
import Derived.Lib.ItoaNum
set_option linter.unusedVariables false
set_option linter.unusedSimpArgs false
namespace Go.Proofs.YtoclgoknednjgaaDoor.PLevelRows
open Go.RowKit Go.Proofs.YtoclgoknednjgaaDoorW.PrintWords Go.Proofs.YtoclgoknednjgaaDoorW.PrintLast Go.Proofs.YtoclgoknednjgaaDoorW.PrintMore Go.Proofs.YtoclgoknednjgaaDoor.M

theorem mul64_ok (a b : Int) (ha : 0 ≤ a ∧ a ≤ 18446744073709551615) (hb : 0 ≤ b ∧ b ≤ 18446744073709551615) : bits_Mul64.f a b = some (a * b / 18446744073709551616, a * b % 18446744073709551616) := by
  unfold bits_Mul64.f
  rw [and_mask32 a ha.1 (by omega), and_mask32 b hb.1 (by omega)]
  have h := mul_parts (a / 4294967296) (a % 4294967296) (b / 4294967296) (b % 4294967296) (by omega) (by omega) (by omega) (by omega)
  have ea : a / 4294967296 * 4294967296 + a % 4294967296 = a := by omega
  have eb : b / 4294967296 * 4294967296 + b % 4294967296 = b := by omega
  rw [ea, eb] at h
  have b2 : 0 ≤ a / 4294967296 * (b % 4294967296) ∧ a / 4294967296 * (b % 4294967296) ≤ 4294967295 * 4294967295 := ⟨Int.mul_nonneg (by omega) (by omega), Int.mul_le_mul (by omega) (by omega) (by omega) (by omega)⟩
  have b4 : 0 ≤ a % 4294967296 * (b % 4294967296) ∧ a % 4294967296 * (b % 4294967296) ≤ 4294967295 * 4294967295 := ⟨Int.mul_nonneg (by omega) (by omega), Int.mul_le_mul (by omega) (by omega) (by omega) (by omega)⟩
  have hm : Go.bits .and .u64 (IntKind.u64.wrap ((IntKind.u64.wrap ((a / 4294967296) * (b % 4294967296))) + ((IntKind.u64.wrap ((a % 4294967296) * (b % 4294967296))) / 4294967296))) 4294967295 = (IntKind.u64.wrap ((IntKind.u64.wrap ((a / 4294967296) * (b % 4294967296))) + ((IntKind.u64.wrap ((a % 4294967296) * (b % 4294967296))) / 4294967296))) % 4294967296 := by
    refine and_mask32 _ ?_ ?_ <;> rw [u64_wrap] <;> omega
  rw [hm, h, u64_wrap]
theorem mul_ok (a b : Int) (ha : 0 ≤ a ∧ a ≤ 18446744073709551615) (hb : 0 ≤ b ∧ b ≤ 18446744073709551615) : wide_Mul.f a b = some (a * b / 18446744073709551616, a * b % 18446744073709551616) := by
  unfold wide_Mul.f
  rw [mul64_ok a b ha hb]
  rfl
theorem zeros_ok (_k : Nat) (y : Int) (h0 : 0 < y) (h1 : y ≤ 18446744073709551615) :
    ∃ s : Nat, s ≤ 63 ∧ bits_LeadingZeros64.f y = some (s : Int) ∧ 9223372036854775808 ≤ y * 2 ^ s ∧ y * 2 ^ s < 18446744073709551616 := by
  obtain ⟨n, rfl⟩ := Int.eq_ofNat_of_zero_le (Int.le_of_lt h0)
  have hn : n < 2 ^ 64 := by have : (2 : Nat) ^ 64 = 18446744073709551616 := by decide
                             omega
  obtain ⟨b1, b2, b3⟩ := Go.Lib.bitLenAux_bounds 64 n hn (by omega)
  have b4 : Go.Lib.bitLenAux 64 n ≤ 64 := Go.Lib.bitLen_le n 64 (Nat.le_refl _) (by have : (2 : Nat) ^ 64 = 18446744073709551616 := by decide
                                                                                    omega)
  unfold bits_LeadingZeros64.f bits_Len64.f Go.Lib.bitLen
  rw [if_pos ⟨by omega, by omega⟩, Int.toNat_natCast]
  generalize Go.Lib.bitLenAux 64 n = L at b1 b2 b3 b4 ⊢
  refine ⟨64 - L, by omega, ?_, ?_, ?_⟩
  · simp only [Option.bind_some]
    refine congrArg some ?_
    unfold wrap64; omega
  · have e : (2 : Nat) ^ (L - 1) * 2 ^ (64 - L) = 9223372036854775808 := by
      rw [← Nat.pow_add, show L - 1 + (64 - L) = 63 by omega]
    have := Nat.mul_le_mul_right (2 ^ (64 - L)) b2
    rw [e] at this
    have h2 : ((2 : Int) ^ (64 - L)) = ((2 ^ (64 - L) : Nat) : Int) := by simp
    rw [h2, ← Int.natCast_mul]
    exact Int.ofNat_le.2 this
  · have e : (2 : Nat) ^ L * 2 ^ (64 - L) = 18446744073709551616 := by
      rw [← Nat.pow_add, show L + (64 - L) = 64 by omega]
    have := (Nat.mul_lt_mul_right (show 0 < 2 ^ (64 - L) from Nat.two_pow_pos _)).2 b3
    rw [e] at this
    have h2 : ((2 : Int) ^ (64 - L)) = ((2 ^ (64 - L) : Nat) : Int) := by simp
    rw [h2, ← Int.natCast_mul]
    exact Int.ofNat_lt.2 this
theorem digit2 {Y yn1 yn0 un21 un0 : Int} (s : Nat) (Q1 : Int) : ∀ (n k : Nat) (q rh : Int), Digit Y yn1 yn0 un21 un0 q rh → 4294967296 ≤ rh + n * 2147483648 → 2 * n + 4 < k →
    bits_Div64.l1 k Y (s : Int) yn1 yn0 un0 Q1 rh un21 q = some (IntKind.u64.wrap ((IntKind.u64.wrap (Q1 * 4294967296)) + (un21 * 4294967296 + un0) / Y), shr .u64 (IntKind.u64.wrap ((IntKind.u64.wrap ((IntKind.u64.wrap (un21 * 4294967296)) + un0)) - (IntKind.u64.wrap ((un21 * 4294967296 + un0) / Y * Y)))) (s : Int)) := by
  intro n
  induction n with
  | zero => intro k q rh d hn; have := d.hr0; omega
  | succ n ih =>
    intro k q rh d hn hk
    obtain ⟨k, rfl⟩ : ∃ m, k = m + 2 := ⟨k - 2, by omega⟩
    have h1 := d.h1; have hr0 := d.hr0; have hq := d.hq; have hf := d.fits
    have go : (un21 * 4294967296 + un0) / Y < q → bits_Div64.j4 (k + 1) Y (s : Int) yn1 yn0 un0 Q1 rh un21 q true = some (IntKind.u64.wrap ((IntKind.u64.wrap (Q1 * 4294967296)) + (un21 * 4294967296 + un0) / Y), shr .u64 (IntKind.u64.wrap ((IntKind.u64.wrap ((IntKind.u64.wrap (un21 * 4294967296)) + un0)) - (IntKind.u64.wrap ((un21 * 4294967296 + un0) / Y * Y)))) (s : Int)) := by
      intro hgt
      simp only [bits_Div64.j4, if_true]
      rw [u64_in (n := rh + yn1) (by omega) (by omega), u64_in (n := q - 1) (by omega) (by omega)]
      by_cases c : rh + yn1 ≥ 4294967296
      · rw [if_pos c, if_pos (by omega), d.last hgt c]
      · rw [if_neg c]
        exact ih k (q - 1) (rh + yn1) (d.less hgt (by omega)) (by omega) (by omega)
    have stop : ¬ (un21 * 4294967296 + un0) / Y < q → bits_Div64.j4 (k + 1) Y (s : Int) yn1 yn0 un0 Q1 rh un21 q false = some (IntKind.u64.wrap ((IntKind.u64.wrap (Q1 * 4294967296)) + (un21 * 4294967296 + un0) / Y), shr .u64 (IntKind.u64.wrap ((IntKind.u64.wrap ((IntKind.u64.wrap (un21 * 4294967296)) + un0)) - (IntKind.u64.wrap ((un21 * 4294967296 + un0) / Y * Y)))) (s : Int)) := by
      intro hle
      have e : q = (un21 * 4294967296 + un0) / Y := by omega
      simp only [bits_Div64.j4, Bool.false_eq_true, if_false]
      rw [if_pos (by omega), e]
    simp only [bits_Div64.l1]
    by_cases c1 : q ≥ 4294967296
    · rw [if_pos c1]; exact go (d.great c1)
    · rw [if_neg c1]
      by_cases c2 : (un21 * 4294967296 + un0) / Y < q
      · rw [decide_eq_true ((d.test (by omega)).2 c2)]; exact go c2
      · rw [decide_eq_false (fun h => c2 ((d.test (by omega)).1 h))]; exact stop c2
theorem digit1 {Y yn1 yn0 un32 un1 : Int} (s : Nat) (un0 : Int) : ∀ (n k : Nat) (q rh : Int), Digit Y yn1 yn0 un32 un1 q rh → 4294967296 ≤ rh + n * 2147483648 → 2 * n + 14 < k →
    ∃ k', 12 < k' ∧ bits_Div64.l0 k Y (s : Int) yn1 yn0 un32 un1 un0 q rh = bits_Div64.j2 k' Y (s : Int) yn1 yn0 un32 un1 un0 ((un32 * 4294967296 + un1) / Y) := by
  intro n
  induction n with
  | zero => intro k q rh d hn; have := d.hr0; omega
  | succ n ih =>
    intro k q rh d hn hk
    obtain ⟨k, rfl⟩ : ∃ m, k = m + 2 := ⟨k - 2, by omega⟩
    have h1 := d.h1; have hr0 := d.hr0; have hq := d.hq; have hf := d.fits
    have go : (un32 * 4294967296 + un1) / Y < q → ∃ k', 12 < k' ∧ bits_Div64.j1 (k + 1) Y (s : Int) yn1 yn0 un32 un1 un0 q rh true = bits_Div64.j2 k' Y (s : Int) yn1 yn0 un32 un1 un0 ((un32 * 4294967296 + un1) / Y) := by
      intro hgt
      simp only [bits_Div64.j1, if_true]
      rw [u64_in (n := rh + yn1) (by omega) (by omega), u64_in (n := q - 1) (by omega) (by omega)]
      by_cases c : rh + yn1 ≥ 4294967296
      · rw [if_pos c, d.last hgt c]
        exact ⟨k, by omega, rfl⟩
      · rw [if_neg c]
        exact ih k (q - 1) (rh + yn1) (d.less hgt (by omega)) (by omega) (by omega)
    have stop : ¬ (un32 * 4294967296 + un1) / Y < q → ∃ k', 12 < k' ∧ bits_Div64.j1 (k + 1) Y (s : Int) yn1 yn0 un32 un1 un0 q rh false = bits_Div64.j2 k' Y (s : Int) yn1 yn0 un32 un1 un0 ((un32 * 4294967296 + un1) / Y) := by
      intro hle
      have e : q = (un32 * 4294967296 + un1) / Y := by omega
      simp only [bits_Div64.j1, Bool.false_eq_true, if_false]
      rw [← e]
      exact ⟨k, by omega, rfl⟩
    simp only [bits_Div64.l0]
    by_cases c1 : q ≥ 4294967296
    · rw [if_pos c1]; exact go (d.great c1)
    · rw [if_neg c1]
      by_cases c2 : (un32 * 4294967296 + un1) / Y < q
      · rw [decide_eq_true ((d.test (by omega)).2 c2)]; exact go c2
      · rw [decide_eq_false (fun h => c2 ((d.test (by omega)).1 h))]; exact stop c2
theorem div64_ok (k : Nat) (hk : 30 ≤ k) (hi lo y : Int) (hhi : 0 ≤ hi ∧ hi < y) (hlo : 0 ≤ lo ∧ lo ≤ 18446744073709551615) (hy : y ≤ 18446744073709551615) :
    bits_Div64.f k hi lo y = some ((hi * 18446744073709551616 + lo) / y, (hi * 18446744073709551616 + lo) % y) := by
  unfold bits_Div64.f
  rw [if_neg (by omega), if_neg (by omega)]
  by_cases c0 : hi = 0
  · rw [if_pos c0, tdiv_nn hlo.1, tmod_nn hlo.1, c0]
    have hq0 : 0 ≤ lo / y := Int.ediv_nonneg hlo.1 (by omega)
    have hq1 : lo / y ≤ lo := Int.ediv_le_self y hlo.1
    rw [u64_in hq0 (by omega)]
    simp
  · rw [if_neg c0]
    obtain ⟨k, rfl⟩ : ∃ m, k = m + 1 := ⟨k - 1, by omega⟩
    obtain ⟨s, hs, e, l1, l2⟩ := zeros_ok k y (by omega) hy
    rw [e]
    simp only [Option.bind_some]
    have hw1 : IntKind.u64.wrap (s : Int) = (s : Int) := u64_in (by omega) (by omega)
    have hw2 : IntKind.u64.wrap (64 - (s : Int)) = ((64 - s : Nat) : Int) := by rw [u64_in (by omega) (by omega)]; omega
    rw [hw1, hw2, if_pos (by omega), if_pos (by omega)]
    obtain ⟨f1, f2, f3, f4, f5, f6, f7⟩ := shifted hs hhi ⟨hlo.1, by omega⟩ l2
    have hY : shl .u64 y (s : Int) = y * 2 ^ s := by rw [shl_eq y s hs]; exact Int.emod_eq_of_lt (by omega) l2
    rw [f1, f2, hY]
    have hP := two_pow_pos s
    generalize hYe : y * 2 ^ s = Y at *
    generalize hi * 2 ^ s + lo / 2 ^ (64 - s) = un32 at *
    generalize lo % 2 ^ (64 - s) * 2 ^ s = un10 at *
    rw [if_neg (by omega), and_mask32 Y (by omega) l2, and_mask32 un10 f5 f6, tdiv_nn f3]
    have d0 := Digit.start (Y := Y) (yn1 := Y / 4294967296) (yn0 := Y % 4294967296) (U := un32) (un1 := un10 / 4294967296) (by omega) (by omega) (by omega) ⟨f3, f4⟩ (by omega)
    have hq := d0.hq; have hr0 := d0.hr0
    have hz : 0 ≤ un32 / (Y / 4294967296) * (Y / 4294967296) := Int.mul_nonneg hq.2.1 (by omega)
    rw [u64_in hq.2.1 (by omega), u64_in hz (by omega), u64_in hr0.1 (by omega)]
    obtain ⟨k', hk', e1⟩ := digit1 s (un10 % 4294967296) 2 (k + 1) _ _ d0 (by omega) (by omega)
    rw [e1]
    have hYp := d0.pos
    have hf := d0.fits
    have hrest := digit_rest (un32 * 4294967296 + un10 / 4294967296) Y hYp
    obtain ⟨k', rfl⟩ : ∃ m, k' = m + 1 := ⟨k' - 1, by omega⟩
    simp only [bits_Div64.j2]
    rw [if_neg (by omega), rest_wrap _ _ _ _ hrest.1 (by omega)]
    generalize hQ1 : (un32 * 4294967296 + un10 / 4294967296) / Y = Q1 at *
    generalize hr1 : un32 * 4294967296 + un10 / 4294967296 - Q1 * Y = r1 at *
    rw [tdiv_nn hrest.1]
    have d2 := Digit.start (Y := Y) (yn1 := Y / 4294967296) (yn0 := Y % 4294967296) (U := r1) (un1 := un10 % 4294967296) (by omega) (by omega) (by omega) hrest (by omega)
    have hq2 := d2.hq; have hr2 := d2.hr0; have hf2 := d2.fits
    have hz2 : 0 ≤ r1 / (Y / 4294967296) * (Y / 4294967296) := Int.mul_nonneg hq2.2.1 (by omega)
    rw [u64_in hq2.2.1 (by omega), u64_in hz2 (by omega), u64_in hr2.1 (by omega)]
    rw [digit2 s Q1 2 k' _ _ d2 (by omega) (by omega)]
    have hrest2 := digit_rest (r1 * 4294967296 + un10 % 4294967296) Y hYp
    rw [rest_wrap _ _ _ _ hrest2.1 (by omega), shr_eq _ s (by omega), u64_in (n := Q1 * 4294967296) (by omega) (by omega), u64_in (by omega) (by omega)]
    obtain ⟨g1, g2⟩ := two_digits (T := hi * 18446744073709551616 + lo) (Y := Y) (un32 := un32) (un1 := un10 / 4294967296) (un0 := un10 % 4294967296) (P := 2 ^ s) (y := y) hP (by omega) hYe.symm (by rw [f7]; omega) (by omega) hQ1.symm hr1.symm rfl rfl
    rw [g1, g2]
theorem wdiv_ok (k : Nat) (hk : 30 ≤ k) (hi lo n : Int) (hhi : 0 ≤ hi ∧ hi ≤ 18446744073709551615) (hlo : 0 ≤ lo ∧ lo ≤ 18446744073709551615) (hn : 0 < n ∧ n ≤ 18446744073709551615) :
    wide_Wide_Div.f k hi lo n = some (hi / n, (hi % n * 18446744073709551616 + lo) / n, (hi % n * 18446744073709551616 + lo) % n, none) := by
  unfold wide_Wide_Div.f
  have m0 := Int.emod_nonneg hi (show n ≠ 0 by omega)
  have m1 := Int.emod_lt_of_pos hi hn.1
  rw [if_neg (by omega), tmod_nn hhi.1, tdiv_nn hhi.1, div64_ok k hk _ _ _ ⟨m0, m1⟩ hlo hn.2]
  simp only [Option.bind_some]
  have hq0 : 0 ≤ hi / n := Int.ediv_nonneg hhi.1 (by omega)
  have hq1 : hi / n ≤ hi := Int.ediv_le_self n hhi.1
  rw [u64_in hq0 (by omega)]
/-- The quotient of a number of two words. -/
theorem wide_quot (hi lo n : Int) (hn : 0 < n) : (hi * 18446744073709551616 + lo) / n = hi / n * 18446744073709551616 + (hi % n * 18446744073709551616 + lo) / n ∧ (hi * 18446744073709551616 + lo) % n = (hi % n * 18446744073709551616 + lo) % n := by
  have e := Int.mul_ediv_add_emod hi n
  have e2 : hi * 18446744073709551616 + lo = (hi % n * 18446744073709551616 + lo) + hi / n * 18446744073709551616 * n := by
    have : n * (hi / n) * 18446744073709551616 = hi / n * 18446744073709551616 * n := by ac_rfl
    omega
  constructor
  · rw [e2, Int.add_mul_ediv_right _ _ (by omega)]
    omega
  · rw [e2, Int.add_mul_emod_self_right]
theorem low_quot (hi lo n : Int) (hhi : 0 ≤ hi) (hlo : 0 ≤ lo ∧ lo ≤ 18446744073709551615) (hn : 0 < n) : 0 ≤ (hi % n * 18446744073709551616 + lo) / n ∧ (hi % n * 18446744073709551616 + lo) / n ≤ 18446744073709551615 := by
  have m0 := Int.emod_nonneg hi (show n ≠ 0 by omega)
  have m1 := Int.emod_lt_of_pos hi hn
  refine ⟨Int.ediv_nonneg (by omega) (by omega), ?_⟩
  have : (hi % n * 18446744073709551616 + lo) / n < 18446744073709551616 := Int.ediv_lt_of_lt_mul hn (by omega)
  omega
theorem prod_words (a b : Int) (ha : 0 ≤ a ∧ a ≤ 18446744073709551615) (hb : 0 ≤ b ∧ b ≤ 18446744073709551615) : 0 ≤ a * b / 18446744073709551616 ∧ a * b / 18446744073709551616 ≤ 18446744073709551614 ∧ 0 ≤ a * b % 18446744073709551616 ∧ a * b % 18446744073709551616 ≤ 18446744073709551615 ∧ 0 ≤ a * b := by
  have b1 : 0 ≤ a * b ∧ a * b ≤ 18446744073709551615 * 18446744073709551615 := ⟨Int.mul_nonneg ha.1 hb.1, Int.mul_le_mul ha.2 hb.2 hb.1 (by omega)⟩
  generalize a * b = p at *
  omega

/-- Scale: a product by a number: its quotient, what is left; or its errors. -/
theorem scale_ok (k : Nat) (hk : 30 ≤ k) (a b c : Int) (ha : 0 ≤ a ∧ a ≤ 18446744073709551615) (hb : 0 ≤ b ∧ b ≤ 18446744073709551615) (hc : 0 ≤ c ∧ c ≤ 18446744073709551615) :
    wide_Scale.f k a b c = some (if c = 0 then (0, 0, some 1) else if a * b / c ≤ 18446744073709551615 then (a * b / c, a * b % c, none) else (0, 0, some 12)) := by
  unfold wide_Scale.f
  obtain ⟨p1, p2, p3, p4, p5⟩ := prod_words a b ha hb
  rw [mul_ok a b ha hb]
  simp only [Option.bind_some]
  by_cases c0 : c = 0
  · rw [if_pos c0]
    unfold wide_Wide_Div.f
    rw [if_pos c0]
    rfl
  · rw [if_neg c0, wdiv_ok k hk _ _ c ⟨p1, by omega⟩ ⟨p3, p4⟩ ⟨by omega, hc.2⟩]
    obtain ⟨q1, q2⟩ := wide_quot (a * b / 18446744073709551616) (a * b % 18446744073709551616) c (by omega)
    have l := low_quot (a * b / 18446744073709551616) (a * b % 18446744073709551616) c p1 ⟨p3, p4⟩ (by omega)
    rw [show a * b / 18446744073709551616 * 18446744073709551616 + a * b % 18446744073709551616 = a * b by omega] at q1 q2
    have h0 : 0 ≤ a * b / 18446744073709551616 / c := Int.ediv_nonneg p1 (by omega)
    rw [q1, q2]
    simp only [Option.bind_some, Option.isNone_none, if_true]
    unfold wide_Wide_Small.f
    generalize a * b / 18446744073709551616 / c = Q at *
    generalize (a * b / 18446744073709551616 % c * 18446744073709551616 + a * b % 18446744073709551616) / c = R at *
    by_cases c1 : Q = 0
    · subst c1
      rw [if_pos rfl, if_pos (by omega)]
      simp
    · rw [if_neg c1, if_neg (by omega)]
      rfl

theorem rright_eq (parts b : Int) : yield_Rate_Right.f parts b = some (decide (parts ≤ 1000000 ∧ (b = 1 ∨ b = 2))) := by
  unfold yield_Rate_Right.f span_Year.f
  by_cases c : parts ≤ 1000000
  · rw [if_pos c]
    by_cases c1 : b = 1
    · rw [if_pos c1, decide_eq_true ⟨c, .inl c1⟩]; rfl
    · rw [if_neg c1]
      by_cases c2 : b = 2
      · rw [if_pos c2, decide_eq_true ⟨c, .inr c2⟩]; rfl
      · rw [if_neg c2, decide_eq_false (by omega)]; rfl
  · rw [if_neg c, decide_eq_false (by omega)]
theorem cright_eq (p : Int) : coin_Coin_Right.f p = some (decide (0 ≤ p ∧ p ≤ 1000000000000)) := by
  unfold coin_Coin_Right.f
  by_cases c : p ≥ 0
  · rw [if_pos c]
    refine congrArg some ?_
    rw [decide_eq_decide]; omega
  · rw [if_neg c, decide_eq_false (by omega)]
theorem round_ok (k : Nat) (hk : 40 ≤ k) (a b : Int) (ha : 0 ≤ a ∧ a ≤ 18446744073709551615) (hb : 0 ≤ b ∧ b ≤ 18446744073709551615) (h0 : 0 ≤ a * b) (h : a * b ≤ 30000000000000000000) :
    wide_Round.f k a b 360000000 = some ((a * b * 2 + 360000000) / 720000000, none) := by
  obtain ⟨k, rfl⟩ : ∃ j, k = j + 1 := ⟨k - 1, by omega⟩
  unfold wide_Round.f
  rw [scale_ok (k + 1) (by omega) a b 360000000 ha hb (by omega), if_neg (by decide)]
  generalize a * b = T at *
  rw [if_pos (by omega), ← round_num T h0]
  simp only [Option.bind_some, Option.isNone_none, if_true]
  rw [u64_in (n := 360000000 - T % 360000000) (by omega) (by omega)]
  by_cases c : T % 360000000 < 360000000 - T % 360000000
  · rw [decide_eq_true c, if_pos c]
    simp only [wide_Round.j0, if_true]
  · rw [decide_eq_false c, if_neg c]
    simp only [wide_Round.j0, Bool.false_eq_true, if_false]
    rw [u64_in (n := T / 360000000 + 1) (by omega) (by omega), if_neg (by omega)]
theorem monthly_ok (k : Nat) (hk : 50 ≤ k) (P b x : Int) (hP : 0 ≤ P ∧ P ≤ 1000000) (hb : b = 1 ∨ b = 2) (hx : 0 ≤ x ∧ x ≤ 1000000000000) : yield_Rate_Month.f k P b x = some (itr P x, none) := by
  obtain ⟨k, rfl⟩ : ∃ j, k = j + 1 := ⟨k - 1, by omega⟩
  have hbd := itr_bd hP hx
  unfold yield_Rate_Month.f
  rw [rright_eq, decide_eq_true ⟨hP.2, hb⟩, cright_eq, decide_eq_true hx]
  simp only [Option.bind_some, if_true, Bool.not_true, yield_Rate_Month.j0, Bool.false_eq_true, if_false]
  unfold span_Year.f
  rw [if_neg (by decide), if_pos rfl]
  simp only [Option.bind_some]
  rw [u64_in (n := x) (by omega) (by omega), u64_in (n := P) (by omega) (by omega), u64_in (n := P * 30) (by omega) (by omega), u64_in (n := 360) (by omega) (by omega), u64_in (n := 1000000 * 360) (by omega) (by omega)]
  rw [show (1000000 * 360 : Int) = 360000000 by decide, round_ok k (by omega) x (P * 30) (by omega) (by omega) hbd.2.2.1 hbd.2.2.2]
  simp only [Option.bind_some]
  have e : (x * (P * 30) * 2 + 360000000) / 720000000 = itr P x := rfl
  rw [e]
  have w : wrap64 (itr P x) = itr P x := by unfold wrap64; omega
  rw [w]

theorem wsum {x i : Int} (hx : 0 ≤ x ∧ x ≤ 1000000000000) (hi : 0 ≤ i ∧ i ≤ 83333333334) : wrap64 (x + i) = x + i := by unfold wrap64; omega
theorem wdif {x i : Int} (hx : -3000000000000 ≤ x ∧ x ≤ 3000000000000) (hi : -3000000000000 ≤ i ∧ i ≤ 3000000000000) : wrap64 (x - i) = x - i := by unfold wrap64; omega
theorem lmonth_ok (k : Nat) (hk : 50 ≤ k) (P b x pay : Int) (all : Bool) (hP : 0 ≤ P ∧ P ≤ 1000000) (hb : b = 1 ∨ b = 2) (hx : 0 ≤ x ∧ x ≤ 1000000000000) (hpay : 0 ≤ pay ∧ pay ≤ 2000000000000) :
    level_month.f k x P b pay all = some (if all = true ∨ pay > x + itr P x then (itr P x, x, 0) else (itr P x, pay - itr P x, x + itr P x - pay)) := by
  have hbd := itr_bd hP hx
  unfold level_month.f
  rw [monthly_ok k hk P b x hP hb hx]
  simp only [Option.bind_some]
  rw [wsum hx ⟨hbd.1, hbd.2.1⟩, wdif (x := x + itr P x) (i := itr P x) (by omega) (by omega), wdif (x := x + itr P x) (i := x + itr P x) (by omega) (by omega), wdif (x := pay) (i := itr P x) (by omega) (by omega), wdif (x := x + itr P x) (i := pay) (by omega) (by omega)]
  rw [show x + itr P x - itr P x = x by omega, show x + itr P x - (x + itr P x) = 0 by omega]
  cases all with
  | true => simp
  | false =>
    simp only [Bool.false_eq_true, if_false, false_or]
    by_cases c : pay > x + itr P x
    · rw [if_pos c, if_pos c]
    · rw [if_neg c, if_neg c]
theorem lmonth_left (k : Nat) (hk : 50 ≤ k) (P b x pay : Int) (hP : 0 ≤ P ∧ P ≤ 1000000) (hb : b = 1 ∨ b = 2) (hx : 0 ≤ x ∧ x ≤ 1000000000000) (hpay : 0 ≤ pay ∧ pay ≤ 2000000000000) :
    ∃ u v, level_month.f k x P b pay false = some (u, v, stp P pay x) := by
  rw [lmonth_ok k hk P b x pay false hP hb hx hpay]
  unfold stp
  by_cases c : pay > x + itr P x
  · rw [if_pos (.inr c), if_pos c]; exact ⟨_, _, rfl⟩
  · rw [if_neg (by simpa using c), if_neg c]; exact ⟨_, _, rfl⟩
theorem wnext {i : Nat} (h : i ≤ 1000) : wrap64 ((i : Int) + 1) = ((i + 1 : Nat) : Int) := by unfold wrap64; omega
theorem enough_ok (P b pay : Int) (n : Nat) (hn : n ≤ 480) (hP : 0 ≤ P ∧ P ≤ 1000000) (hb : b = 1 ∨ b = 2) (hpay : 1 ≤ pay ∧ pay ≤ 2000000000000) :
    ∀ (d k i : Nat) (x : Int), i + d = n → d + 60 < k → 0 ≤ x ∧ x ≤ 1000000000000 → level_enough.l0 k pay x (n : Int) (i : Int) P b = some (decide (its P pay d x = 0)) := by
  intro d
  induction d with
  | zero =>
    intro k i x hi hk hx
    obtain ⟨k, rfl⟩ : ∃ j, k = j + 1 := ⟨k - 1, by omega⟩
    simp only [level_enough.l0]
    rw [if_neg (by omega)]
    rfl
  | succ d ih =>
    intro k i x hi hk hx
    obtain ⟨k, rfl⟩ : ∃ j, k = j + 1 := ⟨k - 1, by omega⟩
    obtain ⟨u, v, e⟩ := lmonth_left k (by omega) P b x pay hP hb hx (by omega)
    simp only [level_enough.l0]
    rw [if_pos (by omega), e]
    simp only [Option.bind_some]
    by_cases c0 : x = 0
    · subst c0
      rw [if_pos rfl, its_zero hpay.1]
      rfl
    · rw [if_neg c0]
      have hs := stp_nonneg P pay x
      by_cases c1 : stp P pay x ≥ x
      · rw [if_pos c1]
        have := its_stuck hP.1 c1 (d + 1)
        rw [decide_eq_false (by omega)]
      · rw [if_neg c1, wnext (by omega)]
        exact ih k (i + 1) (stp P pay x) (by omega) (by omega) (by omega)
/-- Is a payment enough? -/
theorem enough_f (P b pay p : Int) (n : Nat) (hn : n ≤ 480) (hP : 0 ≤ P ∧ P ≤ 1000000) (hb : b = 1 ∨ b = 2) (hpay : 1 ≤ pay ∧ pay ≤ 2000000000000) (hp : 0 ≤ p ∧ p ≤ 1000000000000) (k : Nat) (hk : 560 ≤ k) :
    level_enough.f k p P b (n : Int) pay = some (decide (its P pay n p = 0)) := by
  unfold level_enough.f
  exact enough_ok P b pay n hn hP hb hpay n k 0 p (by omega) (by omega) hp
/-- The least one. -/
structure Least (P p : Int) (n : Nat) (r : Int) : Prop where
  one : 1 ≤ r ∧ r ≤ 1100000000000
  does : its P r n p = 0
  least : ∀ x, 1 ≤ x → x < r → its P x n p ≠ 0
theorem mid_ {low high : Int} (h0 : 1 ≤ low) (h1 : low < high) (h2 : high ≤ 1100000000000) : wrap64 (low + (wrap64 (Int.tdiv (wrap64 (high - low)) 2))) = low + (high - low) / 2 := by
  have e1 : wrap64 (high - low) = high - low := by unfold wrap64; omega
  rw [e1, Int.tdiv_eq_ediv_of_nonneg (by omega)]
  unfold wrap64; omega
theorem mid1_ {m : Int} (h0 : 1 ≤ m) (h1 : m ≤ 1100000000000) : wrap64 (m + 1) = m + 1 := by unfold wrap64; omega
theorem mid_lt {low high : Int} (h1 : low < high) : low ≤ low + (high - low) / 2 ∧ low + (high - low) / 2 < high := by omega
theorem half1 {low high A : Int} (h1 : low < high) (h : high - low < A * 2) : low + (high - low) / 2 - low < A := by omega
theorem half2 {low high A : Int} (h1 : low < high) (h : high - low < A * 2) : high - (low + (high - low) / 2 + 1) < A := by omega
theorem search_ok (P b p : Int) (n : Nat) (hn : n ≤ 480) (hP : 0 ≤ P ∧ P ≤ 1000000) (hb : b = 1 ∨ b = 2) (hp : 0 ≤ p ∧ p ≤ 1000000000000) (e : Option Int) :
    ∀ (j k : Nat) (low high : Int), high - low < 2 ^ j → j + 600 < k → 1 ≤ low → low ≤ high → high ≤ 1100000000000 → (∀ x, 1 ≤ x → x < low → its P x n p ≠ 0) → its P high n p = 0 →
      ∃ r, level_Payment.l0 k p (n : Int) e low high P b = some (r, e) ∧ Least P p n r := by
  intro j
  induction j with
  | zero =>
    intro k low high hd hk h1 h2 h3 hno hyes
    obtain ⟨k, rfl⟩ : ∃ q, k = q + 1 := ⟨k - 1, by omega⟩
    have e1 : (2 : Int) ^ 0 = 1 := rfl
    rw [e1] at hd
    obtain rfl : low = high := by omega
    simp only [level_Payment.l0]
    rw [if_neg (by omega)]
    exact ⟨low, rfl, ⟨h1, h3⟩, hyes, hno⟩
  | succ j ih =>
    intro k low high hd hk h1 h2 h3 hno hyes
    obtain ⟨k, rfl⟩ : ∃ q, k = q + 1 := ⟨k - 1, by omega⟩
    simp only [level_Payment.l0]
    by_cases c : low < high
    · rw [if_pos c, mid_ h1 c h3]
      have hm := mid_lt c
      have g1 : low + (high - low) / 2 - low < 2 ^ j := half1 c (by rw [← Int.pow_succ]; exact hd)
      have g2 : high - (low + (high - low) / 2 + 1) < 2 ^ j := half2 c (by rw [← Int.pow_succ]; exact hd)
      generalize low + (high - low) / 2 = mid at *
      clear hd
      have q0 : 1 ≤ mid := by omega
      have q1 : mid ≤ 1100000000000 := by omega
      have q2 : low ≤ mid + 1 := by omega
      have q3 : mid + 1 ≤ high := by omega
      rw [mid1_ q0 q1, enough_f P b mid p n hn hP hb ⟨q0, by omega⟩ hp k (by omega)]
      simp only [Option.bind_some]
      by_cases c2 : its P mid n p = 0
      · rw [decide_eq_true c2]
        simp only [if_true]
        exact ih k low mid g1 (by omega) h1 hm.1 q1 hno c2
      · rw [decide_eq_false c2]
        simp only [Bool.false_eq_true, if_false]
        refine ih k (mid + 1) high g2 (by omega) (by omega) q3 h3 (fun x hx hlt hz => ?_) hyes
        have := its_anti (P := P) hP.1 (show x ≤ mid by omega) n p
        have := its_nonneg P mid n p hp.1
        exact c2 (by omega)
    · rw [if_neg c]
      obtain rfl : low = high := by omega
      exact ⟨low, rfl, ⟨h1, h3⟩, hyes, hno⟩
/-- May all be? -/
def okAll (p P b n : Int) : Prop := P ≤ 1000000 ∧ (b = 1 ∨ b = 2) ∧ (1 ≤ p ∧ p ≤ 1000000000000) ∧ (1 ≤ n ∧ n ≤ 480)
instance (p P b n : Int) : Decidable (okAll p P b n) := by unfold okAll; infer_instance
theorem lright_yes {p P b n : Int} (h : okAll p P b n) : level_right.f p P b n = some true := by
  obtain ⟨h1, h2, h3, h4⟩ := h
  unfold level_right.f
  rw [rright_eq, decide_eq_true ⟨h1, h2⟩, cright_eq, decide_eq_true (by omega)]
  simp only [Option.bind_some, if_true]
  rw [if_pos (by omega), if_pos (by omega), decide_eq_true h4.2]
theorem lright_no {p P b n : Int} (h : ¬ okAll p P b n) : level_right.f p P b n = some false := by
  unfold level_right.f
  rw [rright_eq, cright_eq]
  simp only [Option.bind_some]
  by_cases c1 : P ≤ 1000000 ∧ (b = 1 ∨ b = 2)
  · rw [decide_eq_true c1]
    simp only [if_true]
    by_cases c2 : p ≥ 1
    · rw [if_pos c2]
      by_cases c3 : 0 ≤ p ∧ p ≤ 1000000000000
      · rw [decide_eq_true c3]
        simp only [if_true]
        by_cases c4 : n ≥ 1
        · rw [if_pos c4]
          exact congrArg some (decide_eq_false fun h4 => h ⟨c1.1, c1.2, ⟨c2, c3.2⟩, ⟨c4, h4⟩⟩)
        · rw [if_neg c4]
      · rw [decide_eq_false c3]; rfl
    · rw [if_neg c2]
  · rw [decide_eq_false c1]; rfl
theorem two41 : (2 : Int) ^ 41 = 2199023255552 := by decide
theorem payment_ok (p P b n : Int) (hP : 0 ≤ P) (h : okAll p P b n) (k : Nat) (hk : 700 ≤ k) : ∃ r, level_Payment.f k p P b n = some (r, none) ∧ Least P p n.toNat r := by
  obtain ⟨h1, h2, h3, h4⟩ := h
  have hp0 : 0 ≤ p ∧ p ≤ 1000000000000 := by omega
  have hbd := itr_bd (P := P) (x := p) ⟨hP, h1⟩ hp0
  unfold level_Payment.f
  rw [lright_yes ⟨h1, h2, h3, h4⟩, monthly_ok k (by omega) P b p ⟨hP, h1⟩ h2 hp0]
  simp only [Option.bind_some, if_true]
  rw [wsum hp0 ⟨hbd.1, hbd.2.1⟩]
  have hh := its_high hP hp0.1 n.toNat (by omega) (show 1 ≤ p + itr P p by omega)
  have hn : n = ((n.toNat : Nat) : Int) := by omega
  have := search_ok P b p n.toNat (by omega) ⟨hP, h1⟩ h2 hp0 none 41 k 1 (p + itr P p) (by rw [two41]; omega) (by omega) (by omega) (by omega) (by omega) (fun x hx hlt => absurd hlt (by omega)) hh
  rw [← hn] at this
  exact this
theorem payment_no (p P b n : Int) (h : ¬ okAll p P b n) (k : Nat) : level_Payment.f k p P b n = some (0, some 1) := by
  unfold level_Payment.f
  rw [lright_no h]
  rfl
theorem awake_700 : arrearslaw10_awake.f 70 = some true := by decide +kernel
theorem awake_yes (k : Nat) (hk : 700 ≤ k) : arrearslaw10_awake.f k = some true := at_rounds arrearslaw10_awake.mono (show 70 ≤ k by omega) awake_700

theorem lawright_eq (p P b n : Int) : arrearslaw10_right.f p P b n = some (decide (okAll p P b n)) := by
  unfold arrearslaw10_right.f
  by_cases h : okAll p P b n
  · rw [decide_eq_true h]
    obtain ⟨h1, h2, h3, h4⟩ := h
    rw [if_pos h1]
    rcases h2 with rfl | rfl
    · rw [if_pos rfl, if_pos (by omega), if_pos h3.2, if_pos (by omega), decide_eq_true h4.2]
    · rw [if_neg (by decide), if_pos rfl, if_pos (by omega), if_pos h3.2, if_pos (by omega), decide_eq_true h4.2]
  · rw [decide_eq_false h]
    by_cases c1 : P ≤ 1000000
    · rw [if_pos c1]
      by_cases c2 : b = 1
      · rw [if_pos c2]
        by_cases c3 : p ≥ 1
        · rw [if_pos c3]
          by_cases c4 : p ≤ 1000000000000
          · rw [if_pos c4]
            by_cases c5 : n ≥ 1
            · rw [if_pos c5]
              exact congrArg some (decide_eq_false fun h4 => h ⟨c1, .inl c2, ⟨c3, c4⟩, ⟨c5, h4⟩⟩)
            · rw [if_neg c5]
          · rw [if_neg c4]
        · rw [if_neg c3]
      · rw [if_neg c2]
        by_cases c2' : b = 2
        · rw [if_pos c2']
          by_cases c3 : p ≥ 1
          · rw [if_pos c3]
            by_cases c4 : p ≤ 1000000000000
            · rw [if_pos c4]
              by_cases c5 : n ≥ 1
              · rw [if_pos c5]
                exact congrArg some (decide_eq_false fun h4 => h ⟨c1, .inr c2', ⟨c3, c4⟩, ⟨c5, h4⟩⟩)
              · rw [if_neg c5]
            · rw [if_neg c4]
          · rw [if_neg c3]
        · rw [if_neg c2']
    · rw [if_neg c1]

section
open Go.Proofs.YtoclgoknednjgaaDoor.M
theorem dg_low (v : Nat) : ((dg v 3 * 65536 + dg v 2) * 65536 + dg v 1) * 65536 + dg v 0 = v % 18446744073709551616 := by
  unfold dg
  simp only [Nat.reducePow, Nat.div_one]
  omega
theorem dg_high (v : Nat) (hv : v < 2 ^ 128) : ((dg v 7 * 65536 + dg v 6) * 65536 + dg v 5) * 65536 + dg v 4 = v / 18446744073709551616 := by
  unfold dg
  simp only [Nat.reducePow] at *
  omega
theorem dg_bd (v k : Nat) : 0 ≤ ((dg v k : Nat) : Int) ∧ ((dg v k : Nat) : Int) ≤ 65535 := by
  have := dg_lt v k
  omega
theorem num8_of (v : Nat) (hv : v < 2 ^ 128) : num8 (dg v 0 : Nat) (dg v 1 : Nat) (dg v 2 : Nat) (dg v 3 : Nat) (dg v 4 : Nat) (dg v 5 : Nat) (dg v 6 : Nat) (dg v 7 : Nat) = v := by
  have h1 := dg_low v
  have h2 := dg_high v hv
  unfold num8
  generalize dg v 0 = d0, dg v 1 = d1, dg v 2 = d2, dg v 3 = d3, dg v 4 = d4, dg v 5 = d5, dg v 6 = d6, dg v 7 = d7 at *
  have h3 := Nat.div_add_mod v 18446744073709551616
  rw [← h1, ← h2] at h3
  omega
theorem refword_f (v : Nat) (hv : v < 2 ^ 128) (u : Bool) : arrearsref03_Word.f (dg v 0 : Nat) (dg v 1 : Nat) (dg v 2 : Nat) (dg v 3 : Nat) (dg v 4 : Nat) (dg v 5 : Nat) (dg v 6 : Nat) (dg v 7 : Nat) u = some (if u = true then ((v / 18446744073709551616 : Nat) : Int) else ((v % 18446744073709551616 : Nat) : Int)) := by
  unfold arrearsref03_Word.f
  rw [if_pos ⟨dg_bd v 0, dg_bd v 1, dg_bd v 2, dg_bd v 3, dg_bd v 4, dg_bd v 5, dg_bd v 6, dg_bd v 7⟩]
  cases u
  · rw [if_neg Bool.false_ne_true, if_neg Bool.false_ne_true, ← dg_low v]; simp
  · rw [if_pos rfl, if_pos rfl, ← dg_high v hv]; simp
theorem refdiv_f (v n : Nat) (hv : v < 2 ^ 128) (hn : 0 < n) (hn2 : n < 18446744073709551616) : arrearsref03_Div.f (dg v 0 : Nat) (dg v 1 : Nat) (dg v 2 : Nat) (dg v 3 : Nat) (dg v 4 : Nat) (dg v 5 : Nat) (dg v 6 : Nat) (dg v 7 : Nat) n = some (((dg (v / n) 0 : Nat) : Int), ((dg (v / n) 1 : Nat) : Int), ((dg (v / n) 2 : Nat) : Int), ((dg (v / n) 3 : Nat) : Int), ((dg (v / n) 4 : Nat) : Int), ((dg (v / n) 5 : Nat) : Int), ((dg (v / n) 6 : Nat) : Int), ((dg (v / n) 7 : Nat) : Int), ((v % n : Nat) : Int)) := by
  unfold arrearsref03_Div.f
  rw [if_pos ⟨dg_bd v 0, dg_bd v 1, dg_bd v 2, dg_bd v 3, dg_bd v 4, dg_bd v 5, dg_bd v 6, dg_bd v 7, by omega, by omega⟩, num8_of v hv, Int.toNat_natCast]
theorem refmul_f (a b : Nat) (ha : a < 18446744073709551616) (hb : b < 18446744073709551616) : arrearsref03_Mul.f a b = some (((dg (a * b) 0 : Nat) : Int), ((dg (a * b) 1 : Nat) : Int), ((dg (a * b) 2 : Nat) : Int), ((dg (a * b) 3 : Nat) : Int), ((dg (a * b) 4 : Nat) : Int), ((dg (a * b) 5 : Nat) : Int), ((dg (a * b) 6 : Nat) : Int), ((dg (a * b) 7 : Nat) : Int)) := by
  unfold arrearsref03_Mul.f
  rw [if_pos (by omega), Int.toNat_natCast, Int.toNat_natCast]
theorem prod_lt (a b : Nat) (ha : a < 18446744073709551616) (hb : b < 18446744073709551616) : a * b < 2 ^ 128 := by
  have h := Nat.mul_le_mul (Nat.le_of_lt_succ ha) (Nat.le_of_lt_succ hb)
  exact Nat.lt_of_le_of_lt h (by decide)
end

section
open Go.Proofs.YtoclgoknednjgaaDoor.M
/-- The reference's Scale. -/
theorem refscale_ok (a b c : Int) (ha : 0 ≤ a ∧ a ≤ 18446744073709551615) (hb : 0 ≤ b ∧ b ≤ 18446744073709551615) (hc : 0 ≤ c ∧ c ≤ 18446744073709551615) :
    arrearsref03_Scale.f a b c = some (if c = 0 then (0, 0, 1) else if a * b / c ≤ 18446744073709551615 then (a * b / c, a * b % c, 0) else (0, 0, 12)) := by
  unfold arrearsref03_Scale.f
  by_cases c0 : c = 0
  · rw [if_pos c0, if_pos c0]
  · rw [if_neg c0, if_neg c0]
    obtain ⟨x, rfl⟩ := Int.eq_ofNat_of_zero_le ha.1
    obtain ⟨y, rfl⟩ := Int.eq_ofNat_of_zero_le hb.1
    obtain ⟨n, rfl⟩ := Int.eq_ofNat_of_zero_le hc.1
    have hx : x < 18446744073709551616 := by omega
    have hy : y < 18446744073709551616 := by omega
    have hp := prod_lt x y hx hy
    have hq : x * y / n < 2 ^ 128 := Nat.lt_of_le_of_lt (Nat.div_le_self _ _) hp
    rw [refmul_f x y hx hy]
    simp only [Option.bind_some]
    rw [refdiv_f (x * y) n hp (by omega) (by omega)]
    simp only [Option.bind_some]
    rw [refword_f _ hq true, refword_f _ hq false]
    simp only [Option.bind_some, if_true, Bool.false_eq_true, if_false]
    rw [show ((x : Int) * y / n) = ((x * y / n : Nat) : Int) by rw [Int.natCast_ediv, Int.natCast_mul], show ((x : Int) * y % n) = ((x * y % n : Nat) : Int) by rw [Int.natCast_emod, Int.natCast_mul]]
    generalize x * y / n = q
    by_cases c1 : (q : Int) ≤ 18446744073709551615
    · rw [if_neg (by omega), if_pos c1, show ((q % 18446744073709551616 : Nat) : Int) = q by omega]
    · rw [if_pos (by omega), if_neg c1]
end

theorem refmonth_ok (P x : Int) (t : Bool) (hP : 0 ≤ P ∧ P ≤ 1000000) (hx : 0 ≤ x ∧ x ≤ 1000000000000) : arrearsref09_Month.f P t x = some (itr P x) := by
  have hb := itr_bd hP hx
  have e : x * (P * 30) = x * P * 30 := by rw [Int.mul_assoc]
  unfold arrearsref09_Month.f
  rw [u64_in (n := x) (by omega) (by omega), u64_in (n := P) (by omega) (by omega), refscale_ok x P 12000000 (by omega) (by omega) (by decide), if_neg (by decide)]
  unfold itr at *
  rw [e] at hb ⊢
  generalize x * P = T at *
  rw [if_pos (by omega)]
  simp only [Option.bind_some]
  by_cases c : T % 12000000 ≥ 6000000
  · rw [if_pos c, u64_in (by omega) (by omega)]
    refine congrArg some ?_
    unfold wrap64
    omega
  · rw [if_neg c]
    refine congrArg some ?_
    unfold wrap64
    omega

theorem stp_le {P pay x : Int} {d : Nat} (hP : 0 ≤ P) (hpay : 1 ≤ pay) (hx : 0 ≤ x) (h : its P pay d x = 0) : stp P pay x ≤ x := by
  by_cases c : x ≤ stp P pay x
  · have := its_stuck hP c d
    have h0 : x = 0 := by omega
    rw [h0, stp_zero hpay]; omega
  · omega
abbrev Tri := Int × Int × Int
def m44 (t : Tri) : S44 := ⟨t.1, t.2.1, t.2.2⟩
def m46 (t : Tri) : S46 := ⟨t.1, t.2.1, t.2.2⟩
/-- What is to be paid in a month. -/
def due1 (P pay : Int) (only : Bool) (x : Int) : Int := if only = true then itr P x else pay
/-- A month. -/
def pt (P pay : Int) (only last : Bool) (x : Int) : Tri := if last = true ∨ due1 P pay only x > x + itr P x then (itr P x, x, 0) else (itr P x, due1 P pay only x - itr P x, x + itr P x - due1 P pay only x)
def ptl (P pay : Int) (only : Bool) : Nat → Int → List Tri
  | 0, x => [pt P pay only true x]
  | d + 1, x => pt P pay only false x :: ptl P pay only d (pt P pay only false x).2.2
theorem ptl_length (P pay : Int) (only : Bool) : ∀ (d : Nat) (x : Int), (ptl P pay only d x).length = d + 1
  | 0, _ => rfl
  | d + 1, x => by rw [ptl, List.length_cons, ptl_length P pay only d]
/-- The principal goes down, and to its end. -/
def Goes (P pay : Int) (only : Bool) (d : Nat) (x : Int) : Prop := only = true ∨ its P pay d x = 0
theorem pt_next {P pay : Int} {only : Bool} {x : Int} {d : Nat} (hP : 0 ≤ P) (hpay : 1 ≤ pay) (hx : 0 ≤ x ∧ x ≤ 1000000000000) (h : Goes P pay only (d + 1) x) :
    (0 ≤ (pt P pay only false x).2.2 ∧ (pt P pay only false x).2.2 ≤ 1000000000000) ∧ Goes P pay only d (pt P pay only false x).2.2 := by
  cases only with
  | true =>
    have e : (pt P pay true false x).2.2 = x := by
      unfold pt due1
      simp only [if_true, Bool.false_eq_true, false_or]
      rw [if_neg (by omega)]
      show x + itr P x - itr P x = x
      omega
    rw [e]
    exact ⟨hx, .inl rfl⟩
  | false =>
    have h' : its P pay (d + 1) x = 0 := by rcases h with h | h; exact absurd h (by decide); exact h
    have e : (pt P pay false false x).2.2 = stp P pay x := by
      unfold pt due1 stp
      simp only [Bool.false_eq_true, if_false, false_or]
      split <;> rfl
    have h1 := stp_le hP hpay hx.1 h'
    have h2 := stp_nonneg P pay x
    rw [e]
    exact ⟨by omega, .inr h'⟩
theorem prog_row (k : Nat) (hk : 50 ≤ k) (P b pay x : Int) (only last : Bool) (hP : 0 ≤ P ∧ P ≤ 1000000) (hb : b = 1 ∨ b = 2) (hx : 0 ≤ x ∧ x ≤ 1000000000000) (hpay : 1 ≤ pay ∧ pay ≤ 1100000000000) :
    level_month.f k x P b (due1 P pay only x) last = some (pt P pay only last x) := by
  have hbd := itr_bd hP hx
  have hd : 0 ≤ due1 P pay only x ∧ due1 P pay only x ≤ 2000000000000 := by unfold due1; split <;> omega
  rw [lmonth_ok k hk P b x _ last hP hb hx hd]
  rfl
/-- The program's months. -/
theorem prog_rows (P b pay : Int) (only : Bool) (n : Nat) (hn : n ≤ 480) (hP : 0 ≤ P ∧ P ≤ 1000000) (hb : b = 1 ∨ b = 2) (hpay : 1 ≤ pay ∧ pay ≤ 1100000000000) :
    ∀ (d k i : Nat) (x pay0 : Int) (acc : List S44), i + d = n → d + 60 < k → acc.length + d ≤ 1000 → (0 ≤ x ∧ x ≤ 1000000000000) → Goes P pay only (d + 1) x → (only = true ∨ pay0 = pay) →
      level_Rows.l0 k (if only = true then 2 else 1) (n : Int) pay0 acc x (i : Int) P b = some (acc ++ (ptl P pay only d x).map m44, none) := by
  have one : ∀ (k i : Nat) (x pay0 : Int) (acc : List S44) (last : Bool), 50 ≤ k → acc.length ≤ 1000 → (0 ≤ x ∧ x ≤ 1000000000000) → (only = true ∨ pay0 = pay) → i ≤ n → last = ((i : Int) == (n : Int)) →
      ∃ pay1, (only = true ∨ pay1 = pay) ∧ level_Rows.l0 (k + 1) (if only = true then 2 else 1) (n : Int) pay0 acc x (i : Int) P b = level_Rows.l0 k (if only = true then 2 else 1) (n : Int) pay1 (acc ++ [m44 (pt P pay only last x)]) (pt P pay only last x).2.2 (((i + 1 : Nat) : Int)) P b := by
    intro k i x pay0 acc last hk hl hx hp hi hlast
    have hr := prog_row k hk P b pay x only last hP hb hx hpay
    cases only with
    | true =>
      refine ⟨itr P x, .inl rfl, ?_⟩
      simp only [if_true]
      rw [level_Rows.l0, if_pos (by omega), if_pos rfl, monthly_ok k hk P b x hP hb hx]
      simp only [Option.bind_some]
      rw [← hlast, show itr P x = due1 P pay true x from rfl, hr]
      simp only [Option.bind_some]
      rw [if_pos (by omega), wnext (by omega)]
      rfl
    | false =>
      have e : pay0 = pay := by rcases hp with h | h; exact absurd h (by decide); exact h
      subst e
      refine ⟨pay0, .inr rfl, ?_⟩
      simp only [Bool.false_eq_true, if_false]
      rw [level_Rows.l0, if_pos (by omega), if_neg (by decide), ← hlast, show level_month.f k x P b pay0 last = _ from hr]
      simp only [Option.bind_some]
      rw [if_pos (by omega), wnext (by omega)]
      rfl
  intro d
  induction d with
  | zero =>
    intro k i x pay0 acc hi hk hl hx hg hp
    obtain ⟨k, rfl⟩ : ∃ j, k = j + 2 := ⟨k - 2, by omega⟩
    obtain ⟨pay1, _, e⟩ := one (k + 1) i x pay0 acc true (by omega) (by omega) hx hp (by omega) (by rw [show i = n by omega]; simp)
    rw [e, level_Rows.l0, if_neg (by omega)]
    rfl
  | succ d ih =>
    intro k i x pay0 acc hi hk hl hx hg hp
    obtain ⟨k, rfl⟩ : ∃ j, k = j + 1 := ⟨k - 1, by omega⟩
    obtain ⟨pay1, hp1, e⟩ := one k i x pay0 acc false (by omega) (by omega) hx hp (by omega) (by symm; rw [beq_eq_false_iff_ne]; omega)
    obtain ⟨hx2, hg2⟩ := pt_next hP.1 hpay.1 hx hg
    rw [e, ih k (i + 1) _ pay1 _ (by omega) (by omega) (by rw [List.length_append]; simp only [List.length_singleton]; omega) hx2 hg2 hp1]
    simp [ptl]
/-- The reference's months. -/
theorem ref_rows (P pay : Int) (only t : Bool) (n : Nat) (hn : n ≤ 480) (hP : 0 ≤ P ∧ P ≤ 1000000) (hpay : 1 ≤ pay ∧ pay ≤ 1100000000000) :
    ∀ (d k i : Nat) (x : Int) (acc : List S46), i + d = n → d + 60 < k → acc.length + d ≤ 1000 → (0 ≤ x ∧ x ≤ 1000000000000) → Goes P pay only (d + 1) x →
      arrearsref10_Rows.l0 k only x (n : Int) pay acc (i : Int) P t = some (acc ++ (ptl P pay only d x).map m46) := by
  have one : ∀ (k i : Nat) (x : Int) (acc : List S46) (last : Bool), acc.length ≤ 1000 → (0 ≤ x ∧ x ≤ 1000000000000) → i ≤ n → last = ((i : Int) == (n : Int)) →
      arrearsref10_Rows.l0 (k + 1) only x (n : Int) pay acc (i : Int) P t = arrearsref10_Rows.l0 k only (pt P pay only last x).2.2 (n : Int) pay (acc ++ [m46 (pt P pay only last x)]) (((i + 1 : Nat) : Int)) P t := by
    intro k i x acc last hl hx hi hlast
    have hbd := itr_bd hP hx
    have w0 : wrap64 (x - x) = 0 := by unfold wrap64; omega
    have w1 : wrap64 (x - 0) = x := by unfold wrap64; omega
    have w2 : wrap64 (pay - itr P x) = pay - itr P x := wdif (by omega) (by omega)
    have w3 : wrap64 (x - (pay - itr P x)) = x + itr P x - pay := by rw [wdif (by omega) (by omega)]; omega
    rw [arrearsref10_Rows.l0, if_pos (by omega), refmonth_ok P x t hP hx]
    simp only [Option.bind_some]
    rw [wnext (by omega)]
    by_cases c : (i : Int) = (n : Int)
    · have hlt : last = true := by rw [hlast]; simpa using c
      subst hlt
      have e : pt P pay only true x = (itr P x, x, 0) := if_pos (.inl rfl)
      rw [e, if_pos c, if_pos c, if_pos (show acc.length < 5864062014805 by omega), w0]
      simp only [ite_self]
      rfl
    · have hlf : last = false := by rw [hlast]; simpa using c
      subst hlf
      rw [if_neg c, if_neg c]
      cases only with
      | true =>
        have e : pt P pay true false x = (itr P x, 0, x) := by
          unfold pt due1
          simp only [if_true, Bool.false_eq_true, false_or]
          rw [if_neg (by omega)]
          refine Prod.ext rfl (Prod.ext ?_ ?_)
          · show itr P x - itr P x = 0; omega
          · show x + itr P x - itr P x = x; omega
        rw [e, if_pos rfl, if_neg (by omega), if_pos (show acc.length < 5864062014805 by omega), w1]
        rfl
      | false =>
        rw [if_neg (by decide), w2]
        by_cases c2 : pay - itr P x > x
        · have e : pt P pay false false x = (itr P x, x, 0) := if_pos (.inr (show pay > x + itr P x by omega))
          rw [e, if_pos c2, if_pos (show acc.length < 5864062014805 by omega), w0]
          rfl
        · have e : pt P pay false false x = (itr P x, pay - itr P x, x + itr P x - pay) := by
            unfold pt due1
            simp only [Bool.false_eq_true, if_false, false_or]
            rw [if_neg (by omega)]
          rw [e, if_neg c2, if_pos (show acc.length < 5864062014805 by omega), w3]
          rfl
  intro d
  induction d with
  | zero =>
    intro k i x acc hi hk hl hx hg
    obtain ⟨k, rfl⟩ : ∃ j, k = j + 2 := ⟨k - 2, by omega⟩
    rw [one (k + 1) i x acc true (by omega) hx (by omega) (by rw [show i = n by omega]; simp), arrearsref10_Rows.l0, if_neg (by omega)]
    rfl
  | succ d ih =>
    intro k i x acc hi hk hl hx hg
    obtain ⟨k, rfl⟩ : ∃ j, k = j + 1 := ⟨k - 1, by omega⟩
    obtain ⟨hx2, hg2⟩ := pt_next hP.1 hpay.1 hx hg
    rw [one k i x acc false (by omega) hx (by omega) (by symm; rw [beq_eq_false_iff_ne]; omega), ih k (i + 1) _ _ (by omega) (by omega) (by rw [List.length_append]; simp only [List.length_singleton]; omega) hx2 hg2]
    simp [ptl]
theorem rds (T : List Tri) (i : Nat) (hi : i < T.length) : rd_T44 (T.map m44) (i : Int) = m44 T[i] ∧ rd_T46 (T.map m46) (i : Int) = m46 T[i] := by
  unfold rd_T44 rd_T46
  rw [Int.toNat_natCast, List.getD_eq_getElem?_getD, List.getD_eq_getElem?_getD, List.getElem?_map, List.getElem?_map, List.getElem?_eq_getElem hi]
  exact ⟨rfl, rfl⟩
theorem loop_ok (T : List Tri) (n : Nat) (hn : T.length = n) (h2 : n ≤ 480) : ∀ (d k i : Nat), i + d = n → d < k → arrearslaw10_LevelRows.l0 k (T.map m46) (T.map m44) (n : Int) (i : Int) = some true := by
  intro d
  induction d with
  | zero =>
    intro k i hi hk
    obtain ⟨k, rfl⟩ : ∃ j, k = j + 1 := ⟨k - 1, by omega⟩
    rw [arrearslaw10_LevelRows.l0, if_neg (by omega)]
  | succ d ih =>
    intro k i hi hk
    obtain ⟨k, rfl⟩ : ∃ j, k = j + 1 := ⟨k - 1, by omega⟩
    obtain ⟨e1, e2⟩ := rds T i (by omega)
    rw [arrearslaw10_LevelRows.l0, if_pos (by omega), if_pos (by omega), List.length_map, List.length_map, hn, if_pos (by omega), if_pos (by omega), e1, e2, wnext (by omega), ih k (i + 1) (by omega) (by omega)]
    simp [m44, m46, level_Row_Pay.f]
theorem kind_no {a : Int} (h1 : ¬ a = 1) (h2 : ¬ a = 2) : level_Name.f a = some (⟨#[]⟩ : ByteArray) := by unfold level_Name.f; rw [if_neg h1, if_neg h2]
theorem name_e1 : (⟨#[108, 101, 118, 101, 108]⟩ : ByteArray).toList ≠ [] := by decide +kernel
theorem name_e2 : (⟨#[111, 110, 108, 121]⟩ : ByteArray).toList ≠ [] := by decide +kernel
theorem name_e0 : (⟨#[]⟩ : ByteArray).toList = [] := by decide +kernel
theorem kinds (k : Nat) (a p P b n : Int) (h : a = 1 ∨ a = 2) : level_Rows.f k a p P b n = (level_Payment.f k p P b n).bind fun z => if z.2.isNone = true then level_Rows.l0 k a n z.1 [] p 1 P b else some ([], some (z.2.getD 0)) := by
  unfold level_Rows.f level_Name.f
  rcases h with rfl | rfl
  · rw [if_pos rfl]
    simp only [Option.bind_some]
    rw [if_neg name_e1]
  · rw [if_neg (by decide), if_pos rfl]
    simp only [Option.bind_some]
    rw [if_neg name_e2]
theorem j0_no (k : Nat) (a p n : Int) (P b : Int) : arrearslaw10_LevelRows.j0 (k + 1) a p n [] (some 1) true P b = some true := by
  simp only [arrearslaw10_LevelRows.j0, if_true, List.length_nil, api_Code.f, Option.getD_some, Option.bind_some]
  rfl
theorem yes (a p P b n : Int) (only : Bool) (ha : a = if only = true then 2 else 1) (hP : 0 ≤ P) (h : okAll p P b n) : ∃ l, level_Rows.f 1000 a p P b n = some (l, none) ∧ arrearslaw10_LevelRows.j0 1000 a p n l none false P b = some true := by
  obtain ⟨r, er, lr⟩ := payment_ok p P b n hP h 1000 (by omega)
  have er2 := payment_ok p P b n hP h 999 (by omega)
  obtain ⟨r', er2, lr2⟩ := er2
  have hrr : r' = r := by
    apply Classical.byContradiction
    intro hc
    rcases Int.lt_or_gt_of_ne hc with h1 | h1
    · exact lr.least r' lr2.one.1 h1 lr2.does
    · exact lr2.least r lr.one.1 h1 lr.does
  subst hrr
  obtain ⟨h1, h2, h3, h4⟩ := h
  obtain ⟨m, rfl⟩ : ∃ m : Nat, n = (m : Int) := ⟨n.toNat, by omega⟩
  rw [Int.toNat_natCast] at lr
  have hPP : 0 ≤ P ∧ P ≤ 1000000 := ⟨hP, h1⟩
  have hx : 0 ≤ p ∧ p ≤ 1000000000000 := by omega
  have hg : Goes P r' only (m - 1 + 1) p := .inr (by rw [show m - 1 + 1 = m by omega]; exact lr.does)
  have e1 := prog_rows P b r' only m (by omega) hPP h2 lr.one (m - 1) 1000 1 p r' [] (by omega) (by omega) (by simp only [List.length_nil]; omega) hx hg (.inr rfl)
  have e2 := ref_rows P r' only (b == 2) m (by omega) hPP lr.one (m - 1) 999 1 p [] (by omega) (by omega) (by simp only [List.length_nil]; omega) hx hg
  rw [show ((1 : Nat) : Int) = 1 from rfl, List.nil_append] at e1 e2
  have hlen := ptl_length P r' only (m - 1) p
  generalize ptl P r' only (m - 1) p = T at *
  refine ⟨T.map m44, ?_, ?_⟩
  · rw [kinds 1000 a p P b m (by rw [ha]; cases only <;> simp), er]
    simp only [Option.bind_some, Option.isNone_none, if_true]
    rw [ha]
    exact e1
  · simp only [arrearslaw10_LevelRows.j0, Bool.false_eq_true, if_false]
    rw [er2]
    simp only [Option.bind_some, arrearslaw10_own.f, Option.isNone_none, if_true]
    unfold arrearsref10_Rows.f
    rw [show (a == 2) = only by rw [ha]; cases only <;> rfl, e2]
    simp only [Option.bind_some, List.length_map, hlen]
    rw [show ((m - 1 + 1 : Nat) : Int) = m by omega, bne_self_eq_false]
    simp only [arrearslaw10_LevelRows.j1, Bool.false_eq_true, if_false, List.length_map, hlen]
    rw [show ((m - 1 + 1 : Nat) : Int) = m by omega]
    exact loop_ok T m (by omega) (by omega) m 998 0 (by omega) (by omega)
theorem pure_proved : arrearslaw10_LevelRows.Pure := by
  intro a p P b n ha hp hP hb hn
  refine ⟨1000, ?_⟩
  unfold arrearslaw10_LevelRows.f
  rw [awake_yes 1000 (by omega), lawright_eq]
  simp only [Option.bind_some, if_true]
  by_cases h : okAll p P b n
  · rw [decide_eq_true h]
    by_cases c1 : a = 1
    · obtain ⟨l, e, g⟩ := yes a p P b n false (by rw [c1]; rfl) hP.1 h
      rw [e]
      simp only [Option.bind_some, if_true]
      rw [if_pos c1]
      exact g
    · by_cases c2 : a = 2
      · obtain ⟨l, e, g⟩ := yes a p P b n true (by rw [c2]; rfl) hP.1 h
        rw [e]
        simp only [Option.bind_some, if_true]
        rw [if_neg c1, show (a != 2) = false by rw [c2]; rfl]
        exact g
      · have e : level_Rows.f 1000 a p P b n = some ([], some 1) := by
          unfold level_Rows.f
          rw [kind_no c1 c2]
          simp only [Option.bind_some]
          rw [if_pos name_e0]
        rw [e]
        simp only [Option.bind_some, if_true]
        rw [if_neg c1, show (a != 2) = true by simpa using c2]
        exact j0_no 999 a p n P b
  · have e : level_Rows.f 1000 a p P b n = some ([], some 1) := by
      by_cases c : a = 1 ∨ a = 2
      · rw [kinds 1000 a p P b n c, payment_no p P b n h 1000]
        rfl
      · unfold level_Rows.f
        rw [kind_no (fun q => c (.inl q)) (fun q => c (.inr q))]
        simp only [Option.bind_some]
        rw [if_pos name_e0]
    rw [e, decide_eq_false h]
    simp only [Option.bind_some, Bool.false_eq_true, if_false]
    exact j0_no 999 a p n P b

end Go.Proofs.YtoclgoknednjgaaDoor.PLevelRows
