/- The pure statement behind the law YieldGrows, over numbers and lists alone. Conditions: those that the printed statement names (each number is of its kind). -/
import Derived.Test.YtldicnmpegkicaaDYieldGrows
import Derived.Test.YtldicnmpegkicaaMwords64
import Derived.Lib.ItoaNum
set_option linter.unusedVariables false
set_option linter.unusedSimpArgs false
namespace Go.Proofs.Ytldicnmpegkicaa.PYieldGrows
open Go.RowKit Go.Proofs.YtldicnmpegkicaaW.PrintWords Go.Proofs.YtldicnmpegkicaaW.PrintLast Go.Proofs.YtldicnmpegkicaaW.PrintMore Go.Proofs.Ytldicnmpegkicaa.M

theorem mul64_ok (a b : Int) (ha : 0 ≤ a ∧ a ≤ 18446744073709551615) (hb : 0 ≤ b ∧ b ≤ 18446744073709551615) : bits_Mul64.f a b = some (a * b / 18446744073709551616, a * b % 18446744073709551616) := by
  unfold bits_Mul64.f
  rw [and_mask32 a ha.1 (by omega), and_mask32 b hb.1 (by omega)]
  have h := mul_parts (a / 4294967296) (a % 4294967296) (b / 4294967296) (b % 4294967296) (by omega) (by omega) (by omega) (by omega)
  have ea : a / 4294967296 * 4294967296 + a % 4294967296 = a := by omega
  have eb : b / 4294967296 * 4294967296 + b % 4294967296 = b := by omega
  rw [ea, eb] at h
  have b2 : 0 ≤ a / 4294967296 * (b % 4294967296) ∧ a / 4294967296 * (b % 4294967296) ≤ 4294967295 * 4294967295 := ⟨Int.mul_nonneg (by omega) (by omega), Int.mul_le_mul (by omega) (by omega) (by omega) (by omega)⟩
  have b4 : 0 ≤ a % 4294967296 * (b % 4294967296) ∧ a % 4294967296 * (b % 4294967296) ≤ 4294967295 * 4294967295 := ⟨Int.mul_nonneg (by omega) (by omega), Int.mul_le_mul (by omega) (by omega) (by omega) (by omega)⟩
  have hm : Go.bits .and .u64 (IntKind.u64.wrap ((IntKind.u64.wrap ((a / 4294967296) * (b % 4294967296))) + ((IntKind.u64.wrap ((a % 4294967296) * (b % 4294967296))) / 4294967296))) 4294967295 = (IntKind.u64.wrap ((IntKind.u64.wrap ((a / 4294967296) * (b % 4294967296))) + ((IntKind.u64.wrap ((a % 4294967296) * (b % 4294967296))) / 4294967296))) % 4294967296 := by
    refine and_mask32 _ ?_ ?_ <;> rw [u64_wrap] <;> omega
  rw [hm, h, u64_wrap]
theorem mul_ok (a b : Int) (ha : 0 ≤ a ∧ a ≤ 18446744073709551615) (hb : 0 ≤ b ∧ b ≤ 18446744073709551615) : wide_Mul.f a b = some (a * b / 18446744073709551616, a * b % 18446744073709551616) := by
  unfold wide_Mul.f
  rw [mul64_ok a b ha hb]
  rfl
theorem zeros_ok (_k : Nat) (y : Int) (h0 : 0 < y) (h1 : y ≤ 18446744073709551615) :
    ∃ s : Nat, s ≤ 63 ∧ bits_LeadingZeros64.f y = some (s : Int) ∧ 9223372036854775808 ≤ y * 2 ^ s ∧ y * 2 ^ s < 18446744073709551616 := by
  obtain ⟨n, rfl⟩ := Int.eq_ofNat_of_zero_le (Int.le_of_lt h0)
  have hn : n < 2 ^ 64 := by have : (2 : Nat) ^ 64 = 18446744073709551616 := by decide
                             omega
  obtain ⟨b1, b2, b3⟩ := Go.Lib.bitLenAux_bounds 64 n hn (by omega)
  have b4 : Go.Lib.bitLenAux 64 n ≤ 64 := Go.Lib.bitLen_le n 64 (Nat.le_refl _) (by have : (2 : Nat) ^ 64 = 18446744073709551616 := by decide
                                                                                    omega)
  unfold bits_LeadingZeros64.f bits_Len64.f Go.Lib.bitLen
  rw [if_pos ⟨by omega, by omega⟩, Int.toNat_natCast]
  generalize Go.Lib.bitLenAux 64 n = L at b1 b2 b3 b4 ⊢
  refine ⟨64 - L, by omega, ?_, ?_, ?_⟩
  · simp only [Option.bind_some]
    refine congrArg some ?_
    unfold wrap64; omega
  · have e : (2 : Nat) ^ (L - 1) * 2 ^ (64 - L) = 9223372036854775808 := by
      rw [← Nat.pow_add, show L - 1 + (64 - L) = 63 by omega]
    have := Nat.mul_le_mul_right (2 ^ (64 - L)) b2
    rw [e] at this
    have h2 : ((2 : Int) ^ (64 - L)) = ((2 ^ (64 - L) : Nat) : Int) := by simp
    rw [h2, ← Int.natCast_mul]
    exact Int.ofNat_le.2 this
  · have e : (2 : Nat) ^ L * 2 ^ (64 - L) = 18446744073709551616 := by
      rw [← Nat.pow_add, show L + (64 - L) = 64 by omega]
    have := (Nat.mul_lt_mul_right (show 0 < 2 ^ (64 - L) from Nat.two_pow_pos _)).2 b3
    rw [e] at this
    have h2 : ((2 : Int) ^ (64 - L)) = ((2 ^ (64 - L) : Nat) : Int) := by simp
    rw [h2, ← Int.natCast_mul]
    exact Int.ofNat_lt.2 this
theorem digit2 {Y yn1 yn0 un21 un0 : Int} (s : Nat) (Q1 : Int) : ∀ (n k : Nat) (q rh : Int), Digit Y yn1 yn0 un21 un0 q rh → 4294967296 ≤ rh + n * 2147483648 → 2 * n + 4 < k →
    bits_Div64.l1 k Y (s : Int) yn1 yn0 un0 Q1 rh un21 q = some (IntKind.u64.wrap ((IntKind.u64.wrap (Q1 * 4294967296)) + (un21 * 4294967296 + un0) / Y), shr .u64 (IntKind.u64.wrap ((IntKind.u64.wrap ((IntKind.u64.wrap (un21 * 4294967296)) + un0)) - (IntKind.u64.wrap ((un21 * 4294967296 + un0) / Y * Y)))) (s : Int)) := by
  intro n
  induction n with
  | zero => intro k q rh d hn; have := d.hr0; omega
  | succ n ih =>
    intro k q rh d hn hk
    obtain ⟨k, rfl⟩ : ∃ m, k = m + 2 := ⟨k - 2, by omega⟩
    have h1 := d.h1; have hr0 := d.hr0; have hq := d.hq; have hf := d.fits
    have go : (un21 * 4294967296 + un0) / Y < q → bits_Div64.j4 (k + 1) Y (s : Int) yn1 yn0 un0 Q1 rh un21 q true = some (IntKind.u64.wrap ((IntKind.u64.wrap (Q1 * 4294967296)) + (un21 * 4294967296 + un0) / Y), shr .u64 (IntKind.u64.wrap ((IntKind.u64.wrap ((IntKind.u64.wrap (un21 * 4294967296)) + un0)) - (IntKind.u64.wrap ((un21 * 4294967296 + un0) / Y * Y)))) (s : Int)) := by
      intro hgt
      simp only [bits_Div64.j4, if_true]
      rw [u64_in (n := rh + yn1) (by omega) (by omega), u64_in (n := q - 1) (by omega) (by omega)]
      by_cases c : rh + yn1 ≥ 4294967296
      · rw [if_pos c, if_pos (by omega), d.last hgt c]
      · rw [if_neg c]
        exact ih k (q - 1) (rh + yn1) (d.less hgt (by omega)) (by omega) (by omega)
    have stop : ¬ (un21 * 4294967296 + un0) / Y < q → bits_Div64.j4 (k + 1) Y (s : Int) yn1 yn0 un0 Q1 rh un21 q false = some (IntKind.u64.wrap ((IntKind.u64.wrap (Q1 * 4294967296)) + (un21 * 4294967296 + un0) / Y), shr .u64 (IntKind.u64.wrap ((IntKind.u64.wrap ((IntKind.u64.wrap (un21 * 4294967296)) + un0)) - (IntKind.u64.wrap ((un21 * 4294967296 + un0) / Y * Y)))) (s : Int)) := by
      intro hle
      have e : q = (un21 * 4294967296 + un0) / Y := by omega
      simp only [bits_Div64.j4, Bool.false_eq_true, if_false]
      rw [if_pos (by omega), e]
    simp only [bits_Div64.l1]
    by_cases c1 : q ≥ 4294967296
    · rw [if_pos c1]; exact go (d.great c1)
    · rw [if_neg c1]
      by_cases c2 : (un21 * 4294967296 + un0) / Y < q
      · rw [decide_eq_true ((d.test (by omega)).2 c2)]; exact go c2
      · rw [decide_eq_false (fun h => c2 ((d.test (by omega)).1 h))]; exact stop c2
theorem digit1 {Y yn1 yn0 un32 un1 : Int} (s : Nat) (un0 : Int) : ∀ (n k : Nat) (q rh : Int), Digit Y yn1 yn0 un32 un1 q rh → 4294967296 ≤ rh + n * 2147483648 → 2 * n + 14 < k →
    ∃ k', 12 < k' ∧ bits_Div64.l0 k Y (s : Int) yn1 yn0 un32 un1 un0 q rh = bits_Div64.j2 k' Y (s : Int) yn1 yn0 un32 un1 un0 ((un32 * 4294967296 + un1) / Y) := by
  intro n
  induction n with
  | zero => intro k q rh d hn; have := d.hr0; omega
  | succ n ih =>
    intro k q rh d hn hk
    obtain ⟨k, rfl⟩ : ∃ m, k = m + 2 := ⟨k - 2, by omega⟩
    have h1 := d.h1; have hr0 := d.hr0; have hq := d.hq; have hf := d.fits
    have go : (un32 * 4294967296 + un1) / Y < q → ∃ k', 12 < k' ∧ bits_Div64.j1 (k + 1) Y (s : Int) yn1 yn0 un32 un1 un0 q rh true = bits_Div64.j2 k' Y (s : Int) yn1 yn0 un32 un1 un0 ((un32 * 4294967296 + un1) / Y) := by
      intro hgt
      simp only [bits_Div64.j1, if_true]
      rw [u64_in (n := rh + yn1) (by omega) (by omega), u64_in (n := q - 1) (by omega) (by omega)]
      by_cases c : rh + yn1 ≥ 4294967296
      · rw [if_pos c, d.last hgt c]
        exact ⟨k, by omega, rfl⟩
      · rw [if_neg c]
        exact ih k (q - 1) (rh + yn1) (d.less hgt (by omega)) (by omega) (by omega)
    have stop : ¬ (un32 * 4294967296 + un1) / Y < q → ∃ k', 12 < k' ∧ bits_Div64.j1 (k + 1) Y (s : Int) yn1 yn0 un32 un1 un0 q rh false = bits_Div64.j2 k' Y (s : Int) yn1 yn0 un32 un1 un0 ((un32 * 4294967296 + un1) / Y) := by
      intro hle
      have e : q = (un32 * 4294967296 + un1) / Y := by omega
      simp only [bits_Div64.j1, Bool.false_eq_true, if_false]
      rw [← e]
      exact ⟨k, by omega, rfl⟩
    simp only [bits_Div64.l0]
    by_cases c1 : q ≥ 4294967296
    · rw [if_pos c1]; exact go (d.great c1)
    · rw [if_neg c1]
      by_cases c2 : (un32 * 4294967296 + un1) / Y < q
      · rw [decide_eq_true ((d.test (by omega)).2 c2)]; exact go c2
      · rw [decide_eq_false (fun h => c2 ((d.test (by omega)).1 h))]; exact stop c2
theorem div64_ok (k : Nat) (hk : 30 ≤ k) (hi lo y : Int) (hhi : 0 ≤ hi ∧ hi < y) (hlo : 0 ≤ lo ∧ lo ≤ 18446744073709551615) (hy : y ≤ 18446744073709551615) :
    bits_Div64.f k hi lo y = some ((hi * 18446744073709551616 + lo) / y, (hi * 18446744073709551616 + lo) % y) := by
  unfold bits_Div64.f
  rw [if_neg (by omega), if_neg (by omega)]
  by_cases c0 : hi = 0
  · rw [if_pos c0, tdiv_nn hlo.1, tmod_nn hlo.1, c0]
    have hq0 : 0 ≤ lo / y := Int.ediv_nonneg hlo.1 (by omega)
    have hq1 : lo / y ≤ lo := Int.ediv_le_self y hlo.1
    rw [u64_in hq0 (by omega)]
    simp
  · rw [if_neg c0]
    obtain ⟨k, rfl⟩ : ∃ m, k = m + 1 := ⟨k - 1, by omega⟩
    obtain ⟨s, hs, e, l1, l2⟩ := zeros_ok k y (by omega) hy
    rw [e]
    simp only [Option.bind_some]
    have hw1 : IntKind.u64.wrap (s : Int) = (s : Int) := u64_in (by omega) (by omega)
    have hw2 : IntKind.u64.wrap (64 - (s : Int)) = ((64 - s : Nat) : Int) := by rw [u64_in (by omega) (by omega)]; omega
    rw [hw1, hw2, if_pos (by omega), if_pos (by omega)]
    obtain ⟨f1, f2, f3, f4, f5, f6, f7⟩ := shifted hs hhi ⟨hlo.1, by omega⟩ l2
    have hY : shl .u64 y (s : Int) = y * 2 ^ s := by rw [shl_eq y s hs]; exact Int.emod_eq_of_lt (by omega) l2
    rw [f1, f2, hY]
    have hP := two_pow_pos s
    generalize hYe : y * 2 ^ s = Y at *
    generalize hi * 2 ^ s + lo / 2 ^ (64 - s) = un32 at *
    generalize lo % 2 ^ (64 - s) * 2 ^ s = un10 at *
    rw [if_neg (by omega), and_mask32 Y (by omega) l2, and_mask32 un10 f5 f6, tdiv_nn f3]
    have d0 := Digit.start (Y := Y) (yn1 := Y / 4294967296) (yn0 := Y % 4294967296) (U := un32) (un1 := un10 / 4294967296) (by omega) (by omega) (by omega) ⟨f3, f4⟩ (by omega)
    have hq := d0.hq; have hr0 := d0.hr0
    have hz : 0 ≤ un32 / (Y / 4294967296) * (Y / 4294967296) := Int.mul_nonneg hq.2.1 (by omega)
    rw [u64_in hq.2.1 (by omega), u64_in hz (by omega), u64_in hr0.1 (by omega)]
    obtain ⟨k', hk', e1⟩ := digit1 s (un10 % 4294967296) 2 (k + 1) _ _ d0 (by omega) (by omega)
    rw [e1]
    have hYp := d0.pos
    have hf := d0.fits
    have hrest := digit_rest (un32 * 4294967296 + un10 / 4294967296) Y hYp
    obtain ⟨k', rfl⟩ : ∃ m, k' = m + 1 := ⟨k' - 1, by omega⟩
    simp only [bits_Div64.j2]
    rw [if_neg (by omega), rest_wrap _ _ _ _ hrest.1 (by omega)]
    generalize hQ1 : (un32 * 4294967296 + un10 / 4294967296) / Y = Q1 at *
    generalize hr1 : un32 * 4294967296 + un10 / 4294967296 - Q1 * Y = r1 at *
    rw [tdiv_nn hrest.1]
    have d2 := Digit.start (Y := Y) (yn1 := Y / 4294967296) (yn0 := Y % 4294967296) (U := r1) (un1 := un10 % 4294967296) (by omega) (by omega) (by omega) hrest (by omega)
    have hq2 := d2.hq; have hr2 := d2.hr0; have hf2 := d2.fits
    have hz2 : 0 ≤ r1 / (Y / 4294967296) * (Y / 4294967296) := Int.mul_nonneg hq2.2.1 (by omega)
    rw [u64_in hq2.2.1 (by omega), u64_in hz2 (by omega), u64_in hr2.1 (by omega)]
    rw [digit2 s Q1 2 k' _ _ d2 (by omega) (by omega)]
    have hrest2 := digit_rest (r1 * 4294967296 + un10 % 4294967296) Y hYp
    rw [rest_wrap _ _ _ _ hrest2.1 (by omega), shr_eq _ s (by omega), u64_in (n := Q1 * 4294967296) (by omega) (by omega), u64_in (by omega) (by omega)]
    obtain ⟨g1, g2⟩ := two_digits (T := hi * 18446744073709551616 + lo) (Y := Y) (un32 := un32) (un1 := un10 / 4294967296) (un0 := un10 % 4294967296) (P := 2 ^ s) (y := y) hP (by omega) hYe.symm (by rw [f7]; omega) (by omega) hQ1.symm hr1.symm rfl rfl
    rw [g1, g2]
theorem wdiv_ok (k : Nat) (hk : 30 ≤ k) (hi lo n : Int) (hhi : 0 ≤ hi ∧ hi ≤ 18446744073709551615) (hlo : 0 ≤ lo ∧ lo ≤ 18446744073709551615) (hn : 0 < n ∧ n ≤ 18446744073709551615) :
    wide_Wide_Div.f k hi lo n = some (hi / n, (hi % n * 18446744073709551616 + lo) / n, (hi % n * 18446744073709551616 + lo) % n, none) := by
  unfold wide_Wide_Div.f
  have m0 := Int.emod_nonneg hi (show n ≠ 0 by omega)
  have m1 := Int.emod_lt_of_pos hi hn.1
  rw [if_neg (by omega), tmod_nn hhi.1, tdiv_nn hhi.1, div64_ok k hk _ _ _ ⟨m0, m1⟩ hlo hn.2]
  simp only [Option.bind_some]
  have hq0 : 0 ≤ hi / n := Int.ediv_nonneg hhi.1 (by omega)
  have hq1 : hi / n ≤ hi := Int.ediv_le_self n hhi.1
  rw [u64_in hq0 (by omega)]
/-- The quotient of a number of two words. -/
theorem wide_quot (hi lo n : Int) (hn : 0 < n) : (hi * 18446744073709551616 + lo) / n = hi / n * 18446744073709551616 + (hi % n * 18446744073709551616 + lo) / n ∧ (hi * 18446744073709551616 + lo) % n = (hi % n * 18446744073709551616 + lo) % n := by
  have e := Int.mul_ediv_add_emod hi n
  have e2 : hi * 18446744073709551616 + lo = (hi % n * 18446744073709551616 + lo) + hi / n * 18446744073709551616 * n := by
    have : n * (hi / n) * 18446744073709551616 = hi / n * 18446744073709551616 * n := by ac_rfl
    omega
  constructor
  · rw [e2, Int.add_mul_ediv_right _ _ (by omega)]
    omega
  · rw [e2, Int.add_mul_emod_self_right]
theorem low_quot (hi lo n : Int) (hhi : 0 ≤ hi) (hlo : 0 ≤ lo ∧ lo ≤ 18446744073709551615) (hn : 0 < n) : 0 ≤ (hi % n * 18446744073709551616 + lo) / n ∧ (hi % n * 18446744073709551616 + lo) / n ≤ 18446744073709551615 := by
  have m0 := Int.emod_nonneg hi (show n ≠ 0 by omega)
  have m1 := Int.emod_lt_of_pos hi hn
  refine ⟨Int.ediv_nonneg (by omega) (by omega), ?_⟩
  have : (hi % n * 18446744073709551616 + lo) / n < 18446744073709551616 := Int.ediv_lt_of_lt_mul hn (by omega)
  omega
theorem prod_words (a b : Int) (ha : 0 ≤ a ∧ a ≤ 18446744073709551615) (hb : 0 ≤ b ∧ b ≤ 18446744073709551615) : 0 ≤ a * b / 18446744073709551616 ∧ a * b / 18446744073709551616 ≤ 18446744073709551614 ∧ 0 ≤ a * b % 18446744073709551616 ∧ a * b % 18446744073709551616 ≤ 18446744073709551615 ∧ 0 ≤ a * b := by
  have b1 : 0 ≤ a * b ∧ a * b ≤ 18446744073709551615 * 18446744073709551615 := ⟨Int.mul_nonneg ha.1 hb.1, Int.mul_le_mul ha.2 hb.2 hb.1 (by omega)⟩
  generalize a * b = p at *
  omega

theorem plus_eq (a b c d : Int) (ha : 0 ≤ a ∧ a ≤ 18446744073709551615) (hb : 0 ≤ b ∧ b ≤ 18446744073709551615) (hc : 0 ≤ c ∧ c ≤ 18446744073709551615) (hd : 0 ≤ d ∧ d ≤ 18446744073709551615) :
    wide_Wide_Plus.f a b c d = if a + c + (b + d) / 18446744073709551616 ≤ 18446744073709551615 then some (a + c + (b + d) / 18446744073709551616, (b + d) % 18446744073709551616, none) else some (0, 0, some 12) := by
  unfold wide_Wide_Plus.f
  rw [if_pos ⟨ha, hb, hc, hd⟩]
/-- By what all is divided: of a basis. -/
def unitOf (b : Int) : Int := if b = 2 then 360000000 else 365000000
/-- May all be? -/
def fitsAll (parts b p days carry : Int) : Prop := parts ≤ 1000000 ∧ (b = 1 ∨ b = 2) ∧ (0 ≤ p ∧ p ≤ 1000000000000) ∧ (0 ≤ days ∧ days ≤ 100000) ∧ carry < unitOf b
instance (parts b p days carry : Int) : Decidable (fitsAll parts b p days carry) := by unfold fitsAll; infer_instance
theorem rright_eq (parts b : Int) : yield_Rate_Right.f parts b = some (decide (parts ≤ 1000000 ∧ (b = 1 ∨ b = 2))) := by
  unfold yield_Rate_Right.f span_Year.f
  by_cases c : parts ≤ 1000000
  · rw [if_pos c]
    by_cases c1 : b = 1
    · rw [if_pos c1, decide_eq_true ⟨c, .inl c1⟩]; rfl
    · rw [if_neg c1]
      by_cases c2 : b = 2
      · rw [if_pos c2, decide_eq_true ⟨c, .inr c2⟩]; rfl
      · rw [if_neg c2, decide_eq_false (by omega)]; rfl
  · rw [if_neg c, decide_eq_false (by omega)]
theorem unit_eq (parts b : Int) (h : parts ≤ 1000000 ∧ (b = 1 ∨ b = 2)) : yield_Rate_Unit.f parts b = some (unitOf b) := by
  unfold yield_Rate_Unit.f unitOf
  rw [rright_eq, decide_eq_true h]
  simp only [Option.bind_some, if_true]
  unfold span_Year.f
  rcases h.2 with rfl | rfl
  · rw [if_pos rfl, if_neg (by decide)]
    simp only [Option.bind_some]
    rw [u64_in (n := 365) (by omega) (by omega), u64_in (by omega) (by omega)]
    rfl
  · rw [if_neg (by decide), if_pos rfl, if_pos rfl]
    simp only [Option.bind_some]
    rw [u64_in (n := 360) (by omega) (by omega), u64_in (by omega) (by omega)]
    rfl
theorem unitOf_bd (b : Int) : 360000000 ≤ unitOf b ∧ unitOf b ≤ 365000000 := by unfold unitOf; split <;> omega
theorem unit_no (parts b : Int) (h : ¬ (parts ≤ 1000000 ∧ (b = 1 ∨ b = 2))) : yield_Rate_Unit.f parts b = some 0 := by
  unfold yield_Rate_Unit.f
  rw [rright_eq, decide_eq_false h]
  rfl
theorem cright_eq (p : Int) : coin_Coin_Right.f p = some (decide (0 ≤ p ∧ p ≤ 1000000000000)) := by
  unfold coin_Coin_Right.f
  by_cases c : p ≥ 0
  · rw [if_pos c]
    refine congrArg some ?_
    rw [decide_eq_decide]; omega
  · rw [if_neg c, decide_eq_false (by omega)]
/-- What comes of so many days: the whole, and what is left. -/
def whole (parts b p days carry : Int) : Int := (p * (parts * days) + carry) / unitOf b
def rest (parts b p days carry : Int) : Int := (p * (parts * days) + carry) % unitOf b
theorem prod_bd (parts p days : Int) (h0 : 0 ≤ parts) (h1 : parts ≤ 1000000) (hp : 0 ≤ p ∧ p ≤ 1000000000000) (hd : 0 ≤ days ∧ days ≤ 100000) : 0 ≤ parts * days ∧ parts * days ≤ 100000000000 ∧ 0 ≤ p * (parts * days) ∧ p * (parts * days) ≤ 100000000000000000000000 := by
  have a0 : 0 ≤ parts * days := Int.mul_nonneg h0 hd.1
  have a1 : parts * days ≤ 1000000 * 100000 := Int.mul_le_mul h1 hd.2 hd.1 (by omega)
  have b0 : 0 ≤ p * (parts * days) := Int.mul_nonneg hp.1 a0
  have b1 : p * (parts * days) ≤ 1000000000000 * 100000000000 := Int.mul_le_mul hp.2 (by omega) a0 (by omega)
  omega
theorem whole_bd (parts b p days carry : Int) (h0 : 0 ≤ parts) (hc : 0 ≤ carry) (h : fitsAll parts b p days carry) : 0 ≤ whole parts b p days carry ∧ whole parts b p days carry ≤ 300000000000000 ∧ 0 ≤ rest parts b p days carry ∧ rest parts b p days carry < unitOf b := by
  obtain ⟨h1, h2, h3, h4, h5⟩ := h
  have hb := prod_bd parts p days h0 h1 h3 h4
  have hu := unitOf_bd b
  unfold whole rest
  refine ⟨Int.ediv_nonneg (by omega) (by omega), ?_, Int.emod_nonneg _ (by omega), Int.emod_lt_of_pos _ (by omega)⟩
  have : (p * (parts * days) + carry) / unitOf b < 300000000000001 := by
    refine Int.ediv_lt_of_lt_mul (by omega) ?_
    have : 300000000000001 * 360000000 ≤ 300000000000001 * unitOf b := Int.mul_le_mul_of_nonneg_left hu.1 (by omega)
    omega
  omega
theorem days_ok (k : Nat) (hk : 40 ≤ k) (parts b p days carry : Int) (h0 : 0 ≤ parts) (hc : 0 ≤ carry) (h : fitsAll parts b p days carry) :
    yield_Rate_Days.f k parts b p days carry = some (whole parts b p days carry, rest parts b p days carry, none) := by
  have hw := whole_bd parts b p days carry h0 hc h
  obtain ⟨h1, h2, h3, h4, h5⟩ := h
  obtain ⟨a0, a1, b0, b1⟩ := prod_bd parts p days h0 h1 h3 h4
  have hu := unitOf_bd b
  obtain ⟨k, rfl⟩ : ∃ j, k = j + 1 := ⟨k - 1, by omega⟩
  unfold yield_Rate_Days.f
  rw [rright_eq, decide_eq_true ⟨h1, h2⟩, cright_eq, decide_eq_true h3, unit_eq parts b ⟨h1, h2⟩]
  simp only [Option.bind_some, if_true]
  rw [if_neg (by omega), if_neg (by omega), decide_eq_false (by omega)]
  simp only [yield_Rate_Days.j0, Bool.false_eq_true, if_false]
  rw [u64_in (n := p) (by omega) (by omega), u64_in (n := parts) (by omega) (by omega), u64_in (n := days) (by omega) (by omega), u64_in (n := parts * days) (by omega) (by omega), mul_ok p (parts * days) (by omega) (by omega)]
  simp only [Option.bind_some]
  unfold wide_Wide_Add.f
  unfold whole rest at hw ⊢
  generalize hP : p * (parts * days) = P at *
  rw [plus_eq _ _ 0 carry (by omega) (by omega) (by omega) (by omega), if_pos (by omega)]
  simp only [Option.bind_some, Option.isNone_none, if_true]
  rw [unit_eq parts b ⟨h1, h2⟩]
  simp only [Option.bind_some]
  have e : (P / 18446744073709551616 + 0 + (P % 18446744073709551616 + carry) / 18446744073709551616) * 18446744073709551616 + (P % 18446744073709551616 + carry) % 18446744073709551616 = P + carry := by omega
  have hhi : 0 ≤ P / 18446744073709551616 + 0 + (P % 18446744073709551616 + carry) / 18446744073709551616 ∧ P / 18446744073709551616 + 0 + (P % 18446744073709551616 + carry) / 18446744073709551616 ≤ 100000 := by omega
  have hlo : 0 ≤ (P % 18446744073709551616 + carry) % 18446744073709551616 ∧ (P % 18446744073709551616 + carry) % 18446744073709551616 ≤ 18446744073709551615 := by omega
  generalize P / 18446744073709551616 + 0 + (P % 18446744073709551616 + carry) / 18446744073709551616 = hi at *
  generalize (P % 18446744073709551616 + carry) % 18446744073709551616 = lo at *
  rw [wdiv_ok k (by omega) hi lo (unitOf b) (by omega) hlo (by omega)]
  obtain ⟨q1, q2⟩ := wide_quot hi lo (unitOf b) (by omega)
  have ll := low_quot hi lo (unitOf b) hhi.1 hlo (by omega)
  rw [e] at q1 q2
  have z : hi / unitOf b = 0 := Int.ediv_eq_zero_of_lt hhi.1 (by omega)
  rw [q1, q2] at hw ⊢
  simp only [Option.bind_some, Option.isNone_none, if_true]
  unfold wide_Wide_Small.f
  rw [z] at hw ⊢
  simp only [Int.zero_mul, Int.zero_add, if_true, Option.bind_some] at hw ⊢
  generalize (hi % unitOf b * 18446744073709551616 + lo) / unitOf b = Q at *
  have : wrap64 Q = Q := by unfold wrap64; omega
  rw [this]
theorem days_bad (k : Nat) (hk : 2 ≤ k) (parts b p days carry : Int) (h : ¬ fitsAll parts b p days carry) : yield_Rate_Days.f k parts b p days carry = some (0, 0, some 1) := by
  obtain ⟨k, rfl⟩ : ∃ j, k = j + 1 := ⟨k - 1, by omega⟩
  have e : yield_Rate_Days.j0 (k + 1) p days carry true parts b = some (0, 0, some 1) := by simp only [yield_Rate_Days.j0, if_true]
  unfold yield_Rate_Days.f
  rw [rright_eq, cright_eq]
  simp only [Option.bind_some]
  by_cases c1 : parts ≤ 1000000 ∧ (b = 1 ∨ b = 2)
  · rw [decide_eq_true c1]
    simp only [if_true]
    by_cases c2 : 0 ≤ p ∧ p ≤ 1000000000000
    · rw [decide_eq_true c2]
      simp only [if_true]
      by_cases c3 : days < 0
      · rw [if_pos c3, e]
      rw [if_neg c3]
      by_cases c4 : days > 100000
      · rw [if_pos c4, e]
      rw [if_neg c4, unit_eq parts b c1]
      simp only [Option.bind_some]
      rw [decide_eq_true (show carry ≥ unitOf b from ?_), e]
      have : ¬ carry < unitOf b := fun hc => h ⟨c1.1, c1.2, c2, by omega, hc⟩
      omega
    · rw [decide_eq_false c2]
      simp only [Bool.false_eq_true, if_false]
      exact e
  · rw [decide_eq_false c1]
    simp only [Bool.false_eq_true, if_false]
    exact e
theorem lawright_yes (parts b p days carry : Int) (h : fitsAll parts b p days carry) : arrearslaw09_right.f parts b p days carry = some true := by
  obtain ⟨h1, h2, h3, h4, h5⟩ := h
  unfold arrearslaw09_right.f arrearslaw09_own.f arrearsref09_Unit.f
  rw [if_pos h1]
  rcases h2 with rfl | rfl
  · rw [if_pos rfl, if_pos (by omega), if_pos h3.2, if_pos (by omega), if_pos h4.2]
    exact congrArg some (decide_eq_true h5)
  · rw [if_neg (by decide), if_pos rfl, if_pos (by omega), if_pos h3.2, if_pos (by omega), if_pos h4.2]
    exact congrArg some (decide_eq_true h5)
theorem lawright_no (parts b p days carry : Int) (h : ¬ fitsAll parts b p days carry) : arrearslaw09_right.f parts b p days carry = some false := by
  unfold arrearslaw09_right.f arrearslaw09_own.f arrearsref09_Unit.f
  by_cases c1 : parts ≤ 1000000
  · rw [if_pos c1]
    by_cases c2 : b = 1
    · subst c2
      rw [if_pos rfl]
      by_cases c3 : p ≥ 0
      · rw [if_pos c3]
        by_cases c4 : p ≤ 1000000000000
        · rw [if_pos c4]
          by_cases c5 : days ≥ 0
          · rw [if_pos c5]
            by_cases c6 : days ≤ 100000
            · rw [if_pos c6]
              exact congrArg some (decide_eq_false fun hc => h ⟨c1, .inl rfl, ⟨c3, c4⟩, ⟨c5, c6⟩, hc⟩)
            · rw [if_neg c6]
          · rw [if_neg c5]
        · rw [if_neg c4]
      · rw [if_neg c3]
    · rw [if_neg c2]
      by_cases c2' : b = 2
      · subst c2'
        rw [if_pos rfl]
        by_cases c3 : p ≥ 0
        · rw [if_pos c3]
          by_cases c4 : p ≤ 1000000000000
          · rw [if_pos c4]
            by_cases c5 : days ≥ 0
            · rw [if_pos c5]
              by_cases c6 : days ≤ 100000
              · rw [if_pos c6]
                exact congrArg some (decide_eq_false fun hc => h ⟨c1, .inr rfl, ⟨c3, c4⟩, ⟨c5, c6⟩, hc⟩)
              · rw [if_neg c6]
            · rw [if_neg c5]
          · rw [if_neg c4]
        · rw [if_neg c3]
      · rw [if_neg c2']
  · rw [if_neg c1]
theorem lawright_eq (parts b p days carry : Int) : arrearslaw09_right.f parts b p days carry = some (decide (fitsAll parts b p days carry)) := by
  by_cases h : fitsAll parts b p days carry
  · rw [lawright_yes _ _ _ _ _ h, decide_eq_true h]
  · rw [lawright_no _ _ _ _ _ h, decide_eq_false h]
theorem awake_yes (k : Nat) (hk : 40 ≤ k) : arrearslaw09_awake.f k = some true := by
  unfold arrearslaw09_awake.f
  rw [days_ok k hk 365000 1 10000 1 0 (by omega) (by omega) (by decide)]
  decide +kernel
/-- What is carried on adds up. -/
theorem adds_up (parts b p d1 d2 carry : Int) : whole parts b p (d1 + d2) carry = whole parts b p d1 carry + whole parts b p d2 (rest parts b p d1 carry) ∧ rest parts b p (d1 + d2) carry = rest parts b p d2 (rest parts b p d1 carry) := by
  have hu := unitOf_bd b
  unfold whole rest
  have e : p * (parts * (d1 + d2)) + carry = p * (parts * d2) + (p * (parts * d1) + carry) := by
    rw [Int.mul_add, Int.mul_add]; omega
  rw [e]
  generalize p * (parts * d1) + carry = T
  generalize p * (parts * d2) = S
  have h := Int.mul_ediv_add_emod T (unitOf b)
  have e2 : S + T = S + T % unitOf b + T / unitOf b * unitOf b := by
    rw [Int.mul_comm (T / unitOf b)]; omega
  constructor
  · rw [e2, Int.add_mul_ediv_right _ _ (by omega)]; omega
  · rw [e2, Int.add_mul_emod_self_right]
theorem wm16 (x : Int) (h : 0 ≤ x ∧ x ≤ 65535) : wrap64 x = x := by unfold wrap64; omega

theorem whole_mono (A B b p q d e : Int) (hA : 0 ≤ A) (hAB : A ≤ B) (hp : 0 ≤ p) (hpq : p ≤ q) (hd : 0 ≤ d) (hde : d ≤ e) : whole A b p d 0 ≤ whole B b q e 0 := by
  have hu := unitOf_bd b
  unfold whole
  refine Int.ediv_le_ediv (by omega) ?_
  have h1 : A * d ≤ B * e := Int.mul_le_mul hAB hde hd (by omega)
  have h0 : 0 ≤ A * d := Int.mul_nonneg hA hd
  have h2 : p * (A * d) ≤ q * (B * e) := Int.mul_le_mul hpq h1 h0 (by omega)
  omega
theorem whole_none (A b d : Int) : whole A b 0 d 0 = 0 ∧ rest A b 0 d 0 = 0 := by
  unfold whole rest
  rw [Int.zero_mul]
  exact ⟨Int.zero_ediv _, Int.zero_emod _⟩
theorem tm_bd (x : Int) (h : 0 ≤ x) : 0 ≤ x.tmod 1000001 ∧ x.tmod 1000001 ≤ 1000000 := by
  rw [Int.tmod_eq_emod_of_nonneg h]
  omega
theorem pure_proved : arrearslaw09_YieldGrows.Pure := by
  intro a0 b b0 c0 p q d m ha0 hb hb0 hc0 hp hq hd hm
  refine ⟨40, ?_⟩
  unfold arrearslaw09_YieldGrows.f
  rw [if_pos (awake_yes 40 (by omega))]
  have hA := tm_bd (if b0 < a0 then b0 else a0) (by split <;> omega)
  have hB := tm_bd (if a0 < b0 then b0 else a0) (by split <;> omega)
  generalize (if b0 < a0 then b0 else a0).tmod 1000001 = A at *
  generalize (if a0 < b0 then b0 else a0).tmod 1000001 = B at *
  unfold growIn
  by_cases h0 : B < A
  · rw [if_pos h0]
  rw [if_neg h0, lawright_eq, lawright_eq]
  by_cases f1 : fitsAll A b p 0 0
  · rw [decide_eq_true f1, if_neg (by decide), if_pos rfl]
    by_cases f2 : fitsAll B b q 0 0
    · rw [decide_eq_true f2, if_neg (by decide), if_pos rfl]
      by_cases c : q < p
      · rw [if_pos c]
      rw [if_neg c]
      have hmm : 0 ≤ m.tmod 1000 ∧ m.tmod 1000 ≤ 999 := by rw [Int.tmod_eq_emod_of_nonneg hm.1]; omega
      generalize m.tmod 1000 = M at *
      have w1 : wrap64 d = d := by unfold wrap64; omega
      have w2 : wrap64 M = M := by unfold wrap64; omega
      have w3 : wrap64 (d + M) = d + M := by unfold wrap64; omega
      rw [w1, w2, w3]
      have u := unitOf_bd b
      have g1 : fitsAll A b p d 0 := ⟨f1.1, f1.2.1, f1.2.2.1, by omega, f1.2.2.2.2⟩
      have g2 : fitsAll B b q (d + M) 0 := ⟨f2.1, f2.2.1, f2.2.2.1, by omega, f2.2.2.2.2⟩
      have g3 : fitsAll A b 0 d 0 := ⟨f1.1, f1.2.1, by omega, by omega, f1.2.2.2.2⟩
      rw [days_ok 40 (by omega) A b p d 0 hA.1 (by omega) g1, days_ok 40 (by omega) B b q (d + M) 0 hB.1 (by omega) g2, days_ok 40 (by omega) A b 0 d 0 hA.1 (by omega) g3]
      simp only [Option.bind_some]
      obtain ⟨z1, z2⟩ := whole_none A b d
      rw [z1, z2]
      rw [if_pos]
      refine ⟨True.intro, True.intro, rfl, ?_⟩
      have := f1.2.2.1
      exact whole_mono A B b p q d (d + M) hA.1 (by omega) this.1 (by omega) hd.1 (by omega)
    · rw [decide_eq_false f2, if_pos rfl]
  · rw [decide_eq_false f1, if_pos rfl]

end Go.Proofs.Ytldicnmpegkicaa.PYieldGrows
