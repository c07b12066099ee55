/- The pure statement behind the law YieldReckons, over numbers and lists alone. Conditions: those that the printed statement names (each number is of its kind). -/
import Derived.Test.YtldicnmpegkicaaDoorDYieldReckons
import Derived.Test.YtldicnmpegkicaaDoorMwords64
import Derived.Lib.ItoaNum
set_option linter.unusedVariables false
set_option linter.unusedSimpArgs false
namespace Go.Proofs.YtldicnmpegkicaaDoor.PYieldReckons
open Go.RowKit Go.Proofs.YtldicnmpegkicaaDoorW.PrintWords Go.Proofs.YtldicnmpegkicaaDoorW.PrintLast Go.Proofs.YtldicnmpegkicaaDoorW.PrintMore Go.Proofs.YtldicnmpegkicaaDoor.M

theorem mul64_ok (a b : Int) (ha : 0 ≤ a ∧ a ≤ 18446744073709551615) (hb : 0 ≤ b ∧ b ≤ 18446744073709551615) : bits_Mul64.f a b = some (a * b / 18446744073709551616, a * b % 18446744073709551616) := by
  unfold bits_Mul64.f
  rw [and_mask32 a ha.1 (by omega), and_mask32 b hb.1 (by omega)]
  have h := mul_parts (a / 4294967296) (a % 4294967296) (b / 4294967296) (b % 4294967296) (by omega) (by omega) (by omega) (by omega)
  have ea : a / 4294967296 * 4294967296 + a % 4294967296 = a := by omega
  have eb : b / 4294967296 * 4294967296 + b % 4294967296 = b := by omega
  rw [ea, eb] at h
  have b2 : 0 ≤ a / 4294967296 * (b % 4294967296) ∧ a / 4294967296 * (b % 4294967296) ≤ 4294967295 * 4294967295 := ⟨Int.mul_nonneg (by omega) (by omega), Int.mul_le_mul (by omega) (by omega) (by omega) (by omega)⟩
  have b4 : 0 ≤ a % 4294967296 * (b % 4294967296) ∧ a % 4294967296 * (b % 4294967296) ≤ 4294967295 * 4294967295 := ⟨Int.mul_nonneg (by omega) (by omega), Int.mul_le_mul (by omega) (by omega) (by omega) (by omega)⟩
  have hm : Go.bits .and .u64 (IntKind.u64.wrap ((IntKind.u64.wrap ((a / 4294967296) * (b % 4294967296))) + ((IntKind.u64.wrap ((a % 4294967296) * (b % 4294967296))) / 4294967296))) 4294967295 = (IntKind.u64.wrap ((IntKind.u64.wrap ((a / 4294967296) * (b % 4294967296))) + ((IntKind.u64.wrap ((a % 4294967296) * (b % 4294967296))) / 4294967296))) % 4294967296 := by
    refine and_mask32 _ ?_ ?_ <;> rw [u64_wrap] <;> omega
  rw [hm, h, u64_wrap]
theorem mul_ok (a b : Int) (ha : 0 ≤ a ∧ a ≤ 18446744073709551615) (hb : 0 ≤ b ∧ b ≤ 18446744073709551615) : wide_Mul.f a b = some (a * b / 18446744073709551616, a * b % 18446744073709551616) := by
  unfold wide_Mul.f
  rw [mul64_ok a b ha hb]
  rfl
theorem zeros_ok (_k : Nat) (y : Int) (h0 : 0 < y) (h1 : y ≤ 18446744073709551615) :
    ∃ s : Nat, s ≤ 63 ∧ bits_LeadingZeros64.f y = some (s : Int) ∧ 9223372036854775808 ≤ y * 2 ^ s ∧ y * 2 ^ s < 18446744073709551616 := by
  obtain ⟨n, rfl⟩ := Int.eq_ofNat_of_zero_le (Int.le_of_lt h0)
  have hn : n < 2 ^ 64 := by have : (2 : Nat) ^ 64 = 18446744073709551616 := by decide
                             omega
  obtain ⟨b1, b2, b3⟩ := Go.Lib.bitLenAux_bounds 64 n hn (by omega)
  have b4 : Go.Lib.bitLenAux 64 n ≤ 64 := Go.Lib.bitLen_le n 64 (Nat.le_refl _) (by have : (2 : Nat) ^ 64 = 18446744073709551616 := by decide
                                                                                    omega)
  unfold bits_LeadingZeros64.f bits_Len64.f Go.Lib.bitLen
  rw [if_pos ⟨by omega, by omega⟩, Int.toNat_natCast]
  generalize Go.Lib.bitLenAux 64 n = L at b1 b2 b3 b4 ⊢
  refine ⟨64 - L, by omega, ?_, ?_, ?_⟩
  · simp only [Option.bind_some]
    refine congrArg some ?_
    unfold wrap64; omega
  · have e : (2 : Nat) ^ (L - 1) * 2 ^ (64 - L) = 9223372036854775808 := by
      rw [← Nat.pow_add, show L - 1 + (64 - L) = 63 by omega]
    have := Nat.mul_le_mul_right (2 ^ (64 - L)) b2
    rw [e] at this
    have h2 : ((2 : Int) ^ (64 - L)) = ((2 ^ (64 - L) : Nat) : Int) := by simp
    rw [h2, ← Int.natCast_mul]
    exact Int.ofNat_le.2 this
  · have e : (2 : Nat) ^ L * 2 ^ (64 - L) = 18446744073709551616 := by
      rw [← Nat.pow_add, show L + (64 - L) = 64 by omega]
    have := (Nat.mul_lt_mul_right (show 0 < 2 ^ (64 - L) from Nat.two_pow_pos _)).2 b3
    rw [e] at this
    have h2 : ((2 : Int) ^ (64 - L)) = ((2 ^ (64 - L) : Nat) : Int) := by simp
    rw [h2, ← Int.natCast_mul]
    exact Int.ofNat_lt.2 this
theorem digit2 {Y yn1 yn0 un21 un0 : Int} (s : Nat) (Q1 : Int) : ∀ (n k : Nat) (q rh : Int), Digit Y yn1 yn0 un21 un0 q rh → 4294967296 ≤ rh + n * 2147483648 → 2 * n + 4 < k →
    bits_Div64.l1 k Y (s : Int) yn1 yn0 un0 Q1 rh un21 q = some (IntKind.u64.wrap ((IntKind.u64.wrap (Q1 * 4294967296)) + (un21 * 4294967296 + un0) / Y), shr .u64 (IntKind.u64.wrap ((IntKind.u64.wrap ((IntKind.u64.wrap (un21 * 4294967296)) + un0)) - (IntKind.u64.wrap ((un21 * 4294967296 + un0) / Y * Y)))) (s : Int)) := by
  intro n
  induction n with
  | zero => intro k q rh d hn; have := d.hr0; omega
  | succ n ih =>
    intro k q rh d hn hk
    obtain ⟨k, rfl⟩ : ∃ m, k = m + 2 := ⟨k - 2, by omega⟩
    have h1 := d.h1; have hr0 := d.hr0; have hq := d.hq; have hf := d.fits
    have go : (un21 * 4294967296 + un0) / Y < q → bits_Div64.j4 (k + 1) Y (s : Int) yn1 yn0 un0 Q1 rh un21 q true = some (IntKind.u64.wrap ((IntKind.u64.wrap (Q1 * 4294967296)) + (un21 * 4294967296 + un0) / Y), shr .u64 (IntKind.u64.wrap ((IntKind.u64.wrap ((IntKind.u64.wrap (un21 * 4294967296)) + un0)) - (IntKind.u64.wrap ((un21 * 4294967296 + un0) / Y * Y)))) (s : Int)) := by
      intro hgt
      simp only [bits_Div64.j4, if_true]
      rw [u64_in (n := rh + yn1) (by omega) (by omega), u64_in (n := q - 1) (by omega) (by omega)]
      by_cases c : rh + yn1 ≥ 4294967296
      · rw [if_pos c, if_pos (by omega), d.last hgt c]
      · rw [if_neg c]
        exact ih k (q - 1) (rh + yn1) (d.less hgt (by omega)) (by omega) (by omega)
    have stop : ¬ (un21 * 4294967296 + un0) / Y < q → bits_Div64.j4 (k + 1) Y (s : Int) yn1 yn0 un0 Q1 rh un21 q false = some (IntKind.u64.wrap ((IntKind.u64.wrap (Q1 * 4294967296)) + (un21 * 4294967296 + un0) / Y), shr .u64 (IntKind.u64.wrap ((IntKind.u64.wrap ((IntKind.u64.wrap (un21 * 4294967296)) + un0)) - (IntKind.u64.wrap ((un21 * 4294967296 + un0) / Y * Y)))) (s : Int)) := by
      intro hle
      have e : q = (un21 * 4294967296 + un0) / Y := by omega
      simp only [bits_Div64.j4, Bool.false_eq_true, if_false]
      rw [if_pos (by omega), e]
    simp only [bits_Div64.l1]
    by_cases c1 : q ≥ 4294967296
    · rw [if_pos c1]; exact go (d.great c1)
    · rw [if_neg c1]
      by_cases c2 : (un21 * 4294967296 + un0) / Y < q
      · rw [decide_eq_true ((d.test (by omega)).2 c2)]; exact go c2
      · rw [decide_eq_false (fun h => c2 ((d.test (by omega)).1 h))]; exact stop c2
theorem digit1 {Y yn1 yn0 un32 un1 : Int} (s : Nat) (un0 : Int) : ∀ (n k : Nat) (q rh : Int), Digit Y yn1 yn0 un32 un1 q rh → 4294967296 ≤ rh + n * 2147483648 → 2 * n + 14 < k →
    ∃ k', 12 < k' ∧ bits_Div64.l0 k Y (s : Int) yn1 yn0 un32 un1 un0 q rh = bits_Div64.j2 k' Y (s : Int) yn1 yn0 un32 un1 un0 ((un32 * 4294967296 + un1) / Y) := by
  intro n
  induction n with
  | zero => intro k q rh d hn; have := d.hr0; omega
  | succ n ih =>
    intro k q rh d hn hk
    obtain ⟨k, rfl⟩ : ∃ m, k = m + 2 := ⟨k - 2, by omega⟩
    have h1 := d.h1; have hr0 := d.hr0; have hq := d.hq; have hf := d.fits
    have go : (un32 * 4294967296 + un1) / Y < q → ∃ k', 12 < k' ∧ bits_Div64.j1 (k + 1) Y (s : Int) yn1 yn0 un32 un1 un0 q rh true = bits_Div64.j2 k' Y (s : Int) yn1 yn0 un32 un1 un0 ((un32 * 4294967296 + un1) / Y) := by
      intro hgt
      simp only [bits_Div64.j1, if_true]
      rw [u64_in (n := rh + yn1) (by omega) (by omega), u64_in (n := q - 1) (by omega) (by omega)]
      by_cases c : rh + yn1 ≥ 4294967296
      · rw [if_pos c, d.last hgt c]
        exact ⟨k, by omega, rfl⟩
      · rw [if_neg c]
        exact ih k (q - 1) (rh + yn1) (d.less hgt (by omega)) (by omega) (by omega)
    have stop : ¬ (un32 * 4294967296 + un1) / Y < q → ∃ k', 12 < k' ∧ bits_Div64.j1 (k + 1) Y (s : Int) yn1 yn0 un32 un1 un0 q rh false = bits_Div64.j2 k' Y (s : Int) yn1 yn0 un32 un1 un0 ((un32 * 4294967296 + un1) / Y) := by
      intro hle
      have e : q = (un32 * 4294967296 + un1) / Y := by omega
      simp only [bits_Div64.j1, Bool.false_eq_true, if_false]
      rw [← e]
      exact ⟨k, by omega, rfl⟩
    simp only [bits_Div64.l0]
    by_cases c1 : q ≥ 4294967296
    · rw [if_pos c1]; exact go (d.great c1)
    · rw [if_neg c1]
      by_cases c2 : (un32 * 4294967296 + un1) / Y < q
      · rw [decide_eq_true ((d.test (by omega)).2 c2)]; exact go c2
      · rw [decide_eq_false (fun h => c2 ((d.test (by omega)).1 h))]; exact stop c2
theorem div64_ok (k : Nat) (hk : 30 ≤ k) (hi lo y : Int) (hhi : 0 ≤ hi ∧ hi < y) (hlo : 0 ≤ lo ∧ lo ≤ 18446744073709551615) (hy : y ≤ 18446744073709551615) :
    bits_Div64.f k hi lo y = some ((hi * 18446744073709551616 + lo) / y, (hi * 18446744073709551616 + lo) % y) := by
  unfold bits_Div64.f
  rw [if_neg (by omega), if_neg (by omega)]
  by_cases c0 : hi = 0
  · rw [if_pos c0, tdiv_nn hlo.1, tmod_nn hlo.1, c0]
    have hq0 : 0 ≤ lo / y := Int.ediv_nonneg hlo.1 (by omega)
    have hq1 : lo / y ≤ lo := Int.ediv_le_self y hlo.1
    rw [u64_in hq0 (by omega)]
    simp
  · rw [if_neg c0]
    obtain ⟨k, rfl⟩ : ∃ m, k = m + 1 := ⟨k - 1, by omega⟩
    obtain ⟨s, hs, e, l1, l2⟩ := zeros_ok k y (by omega) hy
    rw [e]
    simp only [Option.bind_some]
    have hw1 : IntKind.u64.wrap (s : Int) = (s : Int) := u64_in (by omega) (by omega)
    have hw2 : IntKind.u64.wrap (64 - (s : Int)) = ((64 - s : Nat) : Int) := by rw [u64_in (by omega) (by omega)]; omega
    rw [hw1, hw2, if_pos (by omega), if_pos (by omega)]
    obtain ⟨f1, f2, f3, f4, f5, f6, f7⟩ := shifted hs hhi ⟨hlo.1, by omega⟩ l2
    have hY : shl .u64 y (s : Int) = y * 2 ^ s := by rw [shl_eq y s hs]; exact Int.emod_eq_of_lt (by omega) l2
    rw [f1, f2, hY]
    have hP := two_pow_pos s
    generalize hYe : y * 2 ^ s = Y at *
    generalize hi * 2 ^ s + lo / 2 ^ (64 - s) = un32 at *
    generalize lo % 2 ^ (64 - s) * 2 ^ s = un10 at *
    rw [if_neg (by omega), and_mask32 Y (by omega) l2, and_mask32 un10 f5 f6, tdiv_nn f3]
    have d0 := Digit.start (Y := Y) (yn1 := Y / 4294967296) (yn0 := Y % 4294967296) (U := un32) (un1 := un10 / 4294967296) (by omega) (by omega) (by omega) ⟨f3, f4⟩ (by omega)
    have hq := d0.hq; have hr0 := d0.hr0
    have hz : 0 ≤ un32 / (Y / 4294967296) * (Y / 4294967296) := Int.mul_nonneg hq.2.1 (by omega)
    rw [u64_in hq.2.1 (by omega), u64_in hz (by omega), u64_in hr0.1 (by omega)]
    obtain ⟨k', hk', e1⟩ := digit1 s (un10 % 4294967296) 2 (k + 1) _ _ d0 (by omega) (by omega)
    rw [e1]
    have hYp := d0.pos
    have hf := d0.fits
    have hrest := digit_rest (un32 * 4294967296 + un10 / 4294967296) Y hYp
    obtain ⟨k', rfl⟩ : ∃ m, k' = m + 1 := ⟨k' - 1, by omega⟩
    simp only [bits_Div64.j2]
    rw [if_neg (by omega), rest_wrap _ _ _ _ hrest.1 (by omega)]
    generalize hQ1 : (un32 * 4294967296 + un10 / 4294967296) / Y = Q1 at *
    generalize hr1 : un32 * 4294967296 + un10 / 4294967296 - Q1 * Y = r1 at *
    rw [tdiv_nn hrest.1]
    have d2 := Digit.start (Y := Y) (yn1 := Y / 4294967296) (yn0 := Y % 4294967296) (U := r1) (un1 := un10 % 4294967296) (by omega) (by omega) (by omega) hrest (by omega)
    have hq2 := d2.hq; have hr2 := d2.hr0; have hf2 := d2.fits
    have hz2 : 0 ≤ r1 / (Y / 4294967296) * (Y / 4294967296) := Int.mul_nonneg hq2.2.1 (by omega)
    rw [u64_in hq2.2.1 (by omega), u64_in hz2 (by omega), u64_in hr2.1 (by omega)]
    rw [digit2 s Q1 2 k' _ _ d2 (by omega) (by omega)]
    have hrest2 := digit_rest (r1 * 4294967296 + un10 % 4294967296) Y hYp
    rw [rest_wrap _ _ _ _ hrest2.1 (by omega), shr_eq _ s (by omega), u64_in (n := Q1 * 4294967296) (by omega) (by omega), u64_in (by omega) (by omega)]
    obtain ⟨g1, g2⟩ := two_digits (T := hi * 18446744073709551616 + lo) (Y := Y) (un32 := un32) (un1 := un10 / 4294967296) (un0 := un10 % 4294967296) (P := 2 ^ s) (y := y) hP (by omega) hYe.symm (by rw [f7]; omega) (by omega) hQ1.symm hr1.symm rfl rfl
    rw [g1, g2]
theorem wdiv_ok (k : Nat) (hk : 30 ≤ k) (hi lo n : Int) (hhi : 0 ≤ hi ∧ hi ≤ 18446744073709551615) (hlo : 0 ≤ lo ∧ lo ≤ 18446744073709551615) (hn : 0 < n ∧ n ≤ 18446744073709551615) :
    wide_Wide_Div.f k hi lo n = some (hi / n, (hi % n * 18446744073709551616 + lo) / n, (hi % n * 18446744073709551616 + lo) % n, none) := by
  unfold wide_Wide_Div.f
  have m0 := Int.emod_nonneg hi (show n ≠ 0 by omega)
  have m1 := Int.emod_lt_of_pos hi hn.1
  rw [if_neg (by omega), tmod_nn hhi.1, tdiv_nn hhi.1, div64_ok k hk _ _ _ ⟨m0, m1⟩ hlo hn.2]
  simp only [Option.bind_some]
  have hq0 : 0 ≤ hi / n := Int.ediv_nonneg hhi.1 (by omega)
  have hq1 : hi / n ≤ hi := Int.ediv_le_self n hhi.1
  rw [u64_in hq0 (by omega)]
/-- The quotient of a number of two words. -/
theorem wide_quot (hi lo n : Int) (hn : 0 < n) : (hi * 18446744073709551616 + lo) / n = hi / n * 18446744073709551616 + (hi % n * 18446744073709551616 + lo) / n ∧ (hi * 18446744073709551616 + lo) % n = (hi % n * 18446744073709551616 + lo) % n := by
  have e := Int.mul_ediv_add_emod hi n
  have e2 : hi * 18446744073709551616 + lo = (hi % n * 18446744073709551616 + lo) + hi / n * 18446744073709551616 * n := by
    have : n * (hi / n) * 18446744073709551616 = hi / n * 18446744073709551616 * n := by ac_rfl
    omega
  constructor
  · rw [e2, Int.add_mul_ediv_right _ _ (by omega)]
    omega
  · rw [e2, Int.add_mul_emod_self_right]
theorem low_quot (hi lo n : Int) (hhi : 0 ≤ hi) (hlo : 0 ≤ lo ∧ lo ≤ 18446744073709551615) (hn : 0 < n) : 0 ≤ (hi % n * 18446744073709551616 + lo) / n ∧ (hi % n * 18446744073709551616 + lo) / n ≤ 18446744073709551615 := by
  have m0 := Int.emod_nonneg hi (show n ≠ 0 by omega)
  have m1 := Int.emod_lt_of_pos hi hn
  refine ⟨Int.ediv_nonneg (by omega) (by omega), ?_⟩
  have : (hi % n * 18446744073709551616 + lo) / n < 18446744073709551616 := Int.ediv_lt_of_lt_mul hn (by omega)
  omega
theorem prod_words (a b : Int) (ha : 0 ≤ a ∧ a ≤ 18446744073709551615) (hb : 0 ≤ b ∧ b ≤ 18446744073709551615) : 0 ≤ a * b / 18446744073709551616 ∧ a * b / 18446744073709551616 ≤ 18446744073709551614 ∧ 0 ≤ a * b % 18446744073709551616 ∧ a * b % 18446744073709551616 ≤ 18446744073709551615 ∧ 0 ≤ a * b := by
  have b1 : 0 ≤ a * b ∧ a * b ≤ 18446744073709551615 * 18446744073709551615 := ⟨Int.mul_nonneg ha.1 hb.1, Int.mul_le_mul ha.2 hb.2 hb.1 (by omega)⟩
  generalize a * b = p at *
  omega

theorem plus_eq (a b c d : Int) (ha : 0 ≤ a ∧ a ≤ 18446744073709551615) (hb : 0 ≤ b ∧ b ≤ 18446744073709551615) (hc : 0 ≤ c ∧ c ≤ 18446744073709551615) (hd : 0 ≤ d ∧ d ≤ 18446744073709551615) :
    wide_Wide_Plus.f a b c d = if a + c + (b + d) / 18446744073709551616 ≤ 18446744073709551615 then some (a + c + (b + d) / 18446744073709551616, (b + d) % 18446744073709551616, none) else some (0, 0, some 12) := by
  unfold wide_Wide_Plus.f
  rw [if_pos ⟨ha, hb, hc, hd⟩]
/-- By what all is divided: of a basis. -/
def unitOf (b : Int) : Int := if b = 2 then 360000000 else 365000000
/-- May all be? -/
def fitsAll (parts b p days carry : Int) : Prop := parts ≤ 1000000 ∧ (b = 1 ∨ b = 2) ∧ (0 ≤ p ∧ p ≤ 1000000000000) ∧ (0 ≤ days ∧ days ≤ 100000) ∧ carry < unitOf b
instance (parts b p days carry : Int) : Decidable (fitsAll parts b p days carry) := by unfold fitsAll; infer_instance
theorem rright_eq (parts b : Int) : yield_Rate_Right.f parts b = some (decide (parts ≤ 1000000 ∧ (b = 1 ∨ b = 2))) := by
  unfold yield_Rate_Right.f span_Year.f
  by_cases c : parts ≤ 1000000
  · rw [if_pos c]
    by_cases c1 : b = 1
    · rw [if_pos c1, decide_eq_true ⟨c, .inl c1⟩]; rfl
    · rw [if_neg c1]
      by_cases c2 : b = 2
      · rw [if_pos c2, decide_eq_true ⟨c, .inr c2⟩]; rfl
      · rw [if_neg c2, decide_eq_false (by omega)]; rfl
  · rw [if_neg c, decide_eq_false (by omega)]
theorem unit_eq (parts b : Int) (h : parts ≤ 1000000 ∧ (b = 1 ∨ b = 2)) : yield_Rate_Unit.f parts b = some (unitOf b) := by
  unfold yield_Rate_Unit.f unitOf
  rw [rright_eq, decide_eq_true h]
  simp only [Option.bind_some, if_true]
  unfold span_Year.f
  rcases h.2 with rfl | rfl
  · rw [if_pos rfl, if_neg (by decide)]
    simp only [Option.bind_some]
    rw [u64_in (n := 365) (by omega) (by omega), u64_in (by omega) (by omega)]
    rfl
  · rw [if_neg (by decide), if_pos rfl, if_pos rfl]
    simp only [Option.bind_some]
    rw [u64_in (n := 360) (by omega) (by omega), u64_in (by omega) (by omega)]
    rfl
theorem unitOf_bd (b : Int) : 360000000 ≤ unitOf b ∧ unitOf b ≤ 365000000 := by unfold unitOf; split <;> omega
theorem unit_no (parts b : Int) (h : ¬ (parts ≤ 1000000 ∧ (b = 1 ∨ b = 2))) : yield_Rate_Unit.f parts b = some 0 := by
  unfold yield_Rate_Unit.f
  rw [rright_eq, decide_eq_false h]
  rfl
theorem cright_eq (p : Int) : coin_Coin_Right.f p = some (decide (0 ≤ p ∧ p ≤ 1000000000000)) := by
  unfold coin_Coin_Right.f
  by_cases c : p ≥ 0
  · rw [if_pos c]
    refine congrArg some ?_
    rw [decide_eq_decide]; omega
  · rw [if_neg c, decide_eq_false (by omega)]
/-- What comes of so many days: the whole, and what is left. -/
def whole (parts b p days carry : Int) : Int := (p * (parts * days) + carry) / unitOf b
def rest (parts b p days carry : Int) : Int := (p * (parts * days) + carry) % unitOf b
theorem prod_bd (parts p days : Int) (h0 : 0 ≤ parts) (h1 : parts ≤ 1000000) (hp : 0 ≤ p ∧ p ≤ 1000000000000) (hd : 0 ≤ days ∧ days ≤ 100000) : 0 ≤ parts * days ∧ parts * days ≤ 100000000000 ∧ 0 ≤ p * (parts * days) ∧ p * (parts * days) ≤ 100000000000000000000000 := by
  have a0 : 0 ≤ parts * days := Int.mul_nonneg h0 hd.1
  have a1 : parts * days ≤ 1000000 * 100000 := Int.mul_le_mul h1 hd.2 hd.1 (by omega)
  have b0 : 0 ≤ p * (parts * days) := Int.mul_nonneg hp.1 a0
  have b1 : p * (parts * days) ≤ 1000000000000 * 100000000000 := Int.mul_le_mul hp.2 (by omega) a0 (by omega)
  omega
theorem whole_bd (parts b p days carry : Int) (h0 : 0 ≤ parts) (hc : 0 ≤ carry) (h : fitsAll parts b p days carry) : 0 ≤ whole parts b p days carry ∧ whole parts b p days carry ≤ 300000000000000 ∧ 0 ≤ rest parts b p days carry ∧ rest parts b p days carry < unitOf b := by
  obtain ⟨h1, h2, h3, h4, h5⟩ := h
  have hb := prod_bd parts p days h0 h1 h3 h4
  have hu := unitOf_bd b
  unfold whole rest
  refine ⟨Int.ediv_nonneg (by omega) (by omega), ?_, Int.emod_nonneg _ (by omega), Int.emod_lt_of_pos _ (by omega)⟩
  have : (p * (parts * days) + carry) / unitOf b < 300000000000001 := by
    refine Int.ediv_lt_of_lt_mul (by omega) ?_
    have : 300000000000001 * 360000000 ≤ 300000000000001 * unitOf b := Int.mul_le_mul_of_nonneg_left hu.1 (by omega)
    omega
  omega
theorem days_ok (k : Nat) (hk : 40 ≤ k) (parts b p days carry : Int) (h0 : 0 ≤ parts) (hc : 0 ≤ carry) (h : fitsAll parts b p days carry) :
    yield_Rate_Days.f k parts b p days carry = some (whole parts b p days carry, rest parts b p days carry, none) := by
  have hw := whole_bd parts b p days carry h0 hc h
  obtain ⟨h1, h2, h3, h4, h5⟩ := h
  obtain ⟨a0, a1, b0, b1⟩ := prod_bd parts p days h0 h1 h3 h4
  have hu := unitOf_bd b
  obtain ⟨k, rfl⟩ : ∃ j, k = j + 1 := ⟨k - 1, by omega⟩
  unfold yield_Rate_Days.f
  rw [rright_eq, decide_eq_true ⟨h1, h2⟩, cright_eq, decide_eq_true h3, unit_eq parts b ⟨h1, h2⟩]
  simp only [Option.bind_some, if_true]
  rw [if_neg (by omega), if_neg (by omega), decide_eq_false (by omega)]
  simp only [yield_Rate_Days.j0, Bool.false_eq_true, if_false]
  rw [u64_in (n := p) (by omega) (by omega), u64_in (n := parts) (by omega) (by omega), u64_in (n := days) (by omega) (by omega), u64_in (n := parts * days) (by omega) (by omega), mul_ok p (parts * days) (by omega) (by omega)]
  simp only [Option.bind_some]
  unfold wide_Wide_Add.f
  unfold whole rest at hw ⊢
  generalize hP : p * (parts * days) = P at *
  rw [plus_eq _ _ 0 carry (by omega) (by omega) (by omega) (by omega), if_pos (by omega)]
  simp only [Option.bind_some, Option.isNone_none, if_true]
  rw [unit_eq parts b ⟨h1, h2⟩]
  simp only [Option.bind_some]
  have e : (P / 18446744073709551616 + 0 + (P % 18446744073709551616 + carry) / 18446744073709551616) * 18446744073709551616 + (P % 18446744073709551616 + carry) % 18446744073709551616 = P + carry := by omega
  have hhi : 0 ≤ P / 18446744073709551616 + 0 + (P % 18446744073709551616 + carry) / 18446744073709551616 ∧ P / 18446744073709551616 + 0 + (P % 18446744073709551616 + carry) / 18446744073709551616 ≤ 100000 := by omega
  have hlo : 0 ≤ (P % 18446744073709551616 + carry) % 18446744073709551616 ∧ (P % 18446744073709551616 + carry) % 18446744073709551616 ≤ 18446744073709551615 := by omega
  generalize P / 18446744073709551616 + 0 + (P % 18446744073709551616 + carry) / 18446744073709551616 = hi at *
  generalize (P % 18446744073709551616 + carry) % 18446744073709551616 = lo at *
  rw [wdiv_ok k (by omega) hi lo (unitOf b) (by omega) hlo (by omega)]
  obtain ⟨q1, q2⟩ := wide_quot hi lo (unitOf b) (by omega)
  have ll := low_quot hi lo (unitOf b) hhi.1 hlo (by omega)
  rw [e] at q1 q2
  have z : hi / unitOf b = 0 := Int.ediv_eq_zero_of_lt hhi.1 (by omega)
  rw [q1, q2] at hw ⊢
  simp only [Option.bind_some, Option.isNone_none, if_true]
  unfold wide_Wide_Small.f
  rw [z] at hw ⊢
  simp only [Int.zero_mul, Int.zero_add, if_true, Option.bind_some] at hw ⊢
  generalize (hi % unitOf b * 18446744073709551616 + lo) / unitOf b = Q at *
  have : wrap64 Q = Q := by unfold wrap64; omega
  rw [this]
theorem days_bad (k : Nat) (hk : 2 ≤ k) (parts b p days carry : Int) (h : ¬ fitsAll parts b p days carry) : yield_Rate_Days.f k parts b p days carry = some (0, 0, some 1) := by
  obtain ⟨k, rfl⟩ : ∃ j, k = j + 1 := ⟨k - 1, by omega⟩
  have e : yield_Rate_Days.j0 (k + 1) p days carry true parts b = some (0, 0, some 1) := by simp only [yield_Rate_Days.j0, if_true]
  unfold yield_Rate_Days.f
  rw [rright_eq, cright_eq]
  simp only [Option.bind_some]
  by_cases c1 : parts ≤ 1000000 ∧ (b = 1 ∨ b = 2)
  · rw [decide_eq_true c1]
    simp only [if_true]
    by_cases c2 : 0 ≤ p ∧ p ≤ 1000000000000
    · rw [decide_eq_true c2]
      simp only [if_true]
      by_cases c3 : days < 0
      · rw [if_pos c3, e]
      rw [if_neg c3]
      by_cases c4 : days > 100000
      · rw [if_pos c4, e]
      rw [if_neg c4, unit_eq parts b c1]
      simp only [Option.bind_some]
      rw [decide_eq_true (show carry ≥ unitOf b from ?_), e]
      have : ¬ carry < unitOf b := fun hc => h ⟨c1.1, c1.2, c2, by omega, hc⟩
      omega
    · rw [decide_eq_false c2]
      simp only [Bool.false_eq_true, if_false]
      exact e
  · rw [decide_eq_false c1]
    simp only [Bool.false_eq_true, if_false]
    exact e
theorem lawright_yes (parts b p days carry : Int) (h : fitsAll parts b p days carry) : arrearslaw09_right.f parts b p days carry = some true := by
  obtain ⟨h1, h2, h3, h4, h5⟩ := h
  unfold arrearslaw09_right.f arrearslaw09_own.f arrearsref09_Unit.f
  rw [if_pos h1]
  rcases h2 with rfl | rfl
  · rw [if_pos rfl, if_pos (by omega), if_pos h3.2, if_pos (by omega), if_pos h4.2]
    exact congrArg some (decide_eq_true h5)
  · rw [if_neg (by decide), if_pos rfl, if_pos (by omega), if_pos h3.2, if_pos (by omega), if_pos h4.2]
    exact congrArg some (decide_eq_true h5)
theorem lawright_no (parts b p days carry : Int) (h : ¬ fitsAll parts b p days carry) : arrearslaw09_right.f parts b p days carry = some false := by
  unfold arrearslaw09_right.f arrearslaw09_own.f arrearsref09_Unit.f
  by_cases c1 : parts ≤ 1000000
  · rw [if_pos c1]
    by_cases c2 : b = 1
    · subst c2
      rw [if_pos rfl]
      by_cases c3 : p ≥ 0
      · rw [if_pos c3]
        by_cases c4 : p ≤ 1000000000000
        · rw [if_pos c4]
          by_cases c5 : days ≥ 0
          · rw [if_pos c5]
            by_cases c6 : days ≤ 100000
            · rw [if_pos c6]
              exact congrArg some (decide_eq_false fun hc => h ⟨c1, .inl rfl, ⟨c3, c4⟩, ⟨c5, c6⟩, hc⟩)
            · rw [if_neg c6]
          · rw [if_neg c5]
        · rw [if_neg c4]
      · rw [if_neg c3]
    · rw [if_neg c2]
      by_cases c2' : b = 2
      · subst c2'
        rw [if_pos rfl]
        by_cases c3 : p ≥ 0
        · rw [if_pos c3]
          by_cases c4 : p ≤ 1000000000000
          · rw [if_pos c4]
            by_cases c5 : days ≥ 0
            · rw [if_pos c5]
              by_cases c6 : days ≤ 100000
              · rw [if_pos c6]
                exact congrArg some (decide_eq_false fun hc => h ⟨c1, .inr rfl, ⟨c3, c4⟩, ⟨c5, c6⟩, hc⟩)
              · rw [if_neg c6]
            · rw [if_neg c5]
          · rw [if_neg c4]
        · rw [if_neg c3]
      · rw [if_neg c2']
  · rw [if_neg c1]
theorem lawright_eq (parts b p days carry : Int) : arrearslaw09_right.f parts b p days carry = some (decide (fitsAll parts b p days carry)) := by
  by_cases h : fitsAll parts b p days carry
  · rw [lawright_yes _ _ _ _ _ h, decide_eq_true h]
  · rw [lawright_no _ _ _ _ _ h, decide_eq_false h]
theorem awake_yes (k : Nat) (hk : 40 ≤ k) : arrearslaw09_awake.f k = some true := by
  unfold arrearslaw09_awake.f
  rw [days_ok k hk 365000 1 10000 1 0 (by omega) (by omega) (by decide)]
  decide +kernel
/-- What is carried on adds up. -/
theorem adds_up (parts b p d1 d2 carry : Int) : whole parts b p (d1 + d2) carry = whole parts b p d1 carry + whole parts b p d2 (rest parts b p d1 carry) ∧ rest parts b p (d1 + d2) carry = rest parts b p d2 (rest parts b p d1 carry) := by
  have hu := unitOf_bd b
  unfold whole rest
  have e : p * (parts * (d1 + d2)) + carry = p * (parts * d2) + (p * (parts * d1) + carry) := by
    rw [Int.mul_add, Int.mul_add]; omega
  rw [e]
  generalize p * (parts * d1) + carry = T
  generalize p * (parts * d2) = S
  have h := Int.mul_ediv_add_emod T (unitOf b)
  have e2 : S + T = S + T % unitOf b + T / unitOf b * unitOf b := by
    rw [Int.mul_comm (T / unitOf b)]; omega
  constructor
  · rw [e2, Int.add_mul_ediv_right _ _ (by omega)]; omega
  · rw [e2, Int.add_mul_emod_self_right]
theorem wm16 (x : Int) (h : 0 ≤ x ∧ x ≤ 65535) : wrap64 x = x := by unfold wrap64; omega

section
open Go.Proofs.YtldicnmpegkicaaDoor.M
theorem dg_low (v : Nat) : ((dg v 3 * 65536 + dg v 2) * 65536 + dg v 1) * 65536 + dg v 0 = v % 18446744073709551616 := by
  unfold dg
  simp only [Nat.reducePow, Nat.div_one]
  omega
theorem dg_high (v : Nat) (hv : v < 2 ^ 128) : ((dg v 7 * 65536 + dg v 6) * 65536 + dg v 5) * 65536 + dg v 4 = v / 18446744073709551616 := by
  unfold dg
  simp only [Nat.reducePow] at *
  omega
theorem dg_bd (v k : Nat) : 0 ≤ ((dg v k : Nat) : Int) ∧ ((dg v k : Nat) : Int) ≤ 65535 := by
  have := dg_lt v k
  omega
theorem num8_of (v : Nat) (hv : v < 2 ^ 128) : num8 (dg v 0 : Nat) (dg v 1 : Nat) (dg v 2 : Nat) (dg v 3 : Nat) (dg v 4 : Nat) (dg v 5 : Nat) (dg v 6 : Nat) (dg v 7 : Nat) = v := by
  have h1 := dg_low v
  have h2 := dg_high v hv
  unfold num8
  generalize dg v 0 = d0, dg v 1 = d1, dg v 2 = d2, dg v 3 = d3, dg v 4 = d4, dg v 5 = d5, dg v 6 = d6, dg v 7 = d7 at *
  have h3 := Nat.div_add_mod v 18446744073709551616
  rw [← h1, ← h2] at h3
  omega
theorem refword_f (v : Nat) (hv : v < 2 ^ 128) (u : Bool) : arrearsref03_Word.f (dg v 0 : Nat) (dg v 1 : Nat) (dg v 2 : Nat) (dg v 3 : Nat) (dg v 4 : Nat) (dg v 5 : Nat) (dg v 6 : Nat) (dg v 7 : Nat) u = some (if u = true then ((v / 18446744073709551616 : Nat) : Int) else ((v % 18446744073709551616 : Nat) : Int)) := by
  unfold arrearsref03_Word.f
  rw [if_pos ⟨dg_bd v 0, dg_bd v 1, dg_bd v 2, dg_bd v 3, dg_bd v 4, dg_bd v 5, dg_bd v 6, dg_bd v 7⟩]
  cases u
  · rw [if_neg Bool.false_ne_true, if_neg Bool.false_ne_true, ← dg_low v]; simp
  · rw [if_pos rfl, if_pos rfl, ← dg_high v hv]; simp
theorem refdiv_f (v n : Nat) (hv : v < 2 ^ 128) (hn : 0 < n) (hn2 : n < 18446744073709551616) : arrearsref03_Div.f (dg v 0 : Nat) (dg v 1 : Nat) (dg v 2 : Nat) (dg v 3 : Nat) (dg v 4 : Nat) (dg v 5 : Nat) (dg v 6 : Nat) (dg v 7 : Nat) n = some (((dg (v / n) 0 : Nat) : Int), ((dg (v / n) 1 : Nat) : Int), ((dg (v / n) 2 : Nat) : Int), ((dg (v / n) 3 : Nat) : Int), ((dg (v / n) 4 : Nat) : Int), ((dg (v / n) 5 : Nat) : Int), ((dg (v / n) 6 : Nat) : Int), ((dg (v / n) 7 : Nat) : Int), ((v % n : Nat) : Int)) := by
  unfold arrearsref03_Div.f
  rw [if_pos ⟨dg_bd v 0, dg_bd v 1, dg_bd v 2, dg_bd v 3, dg_bd v 4, dg_bd v 5, dg_bd v 6, dg_bd v 7, by omega, by omega⟩, num8_of v hv, Int.toNat_natCast]
theorem refmul_f (a b : Nat) (ha : a < 18446744073709551616) (hb : b < 18446744073709551616) : arrearsref03_Mul.f a b = some (((dg (a * b) 0 : Nat) : Int), ((dg (a * b) 1 : Nat) : Int), ((dg (a * b) 2 : Nat) : Int), ((dg (a * b) 3 : Nat) : Int), ((dg (a * b) 4 : Nat) : Int), ((dg (a * b) 5 : Nat) : Int), ((dg (a * b) 6 : Nat) : Int), ((dg (a * b) 7 : Nat) : Int)) := by
  unfold arrearsref03_Mul.f
  rw [if_pos (by omega), Int.toNat_natCast, Int.toNat_natCast]
theorem prod_lt (a b : Nat) (ha : a < 18446744073709551616) (hb : b < 18446744073709551616) : a * b < 2 ^ 128 := by
  have h := Nat.mul_le_mul (Nat.le_of_lt_succ ha) (Nat.le_of_lt_succ hb)
  exact Nat.lt_of_le_of_lt h (by decide)
end

section
open Go.Proofs.YtldicnmpegkicaaDoor.M
theorem dg_sum (u : Nat) (hu : u < 2 ^ 128) : u = dg u 0 + 65536 * (dg u 1 + 65536 * (dg u 2 + 65536 * (dg u 3 + 65536 * (dg u 4 + 65536 * (dg u 5 + 65536 * (dg u 6 + 65536 * dg u 7)))))) := by
  have h1 := dg_low u
  have h2 := dg_high u hu
  have h3 := Nat.div_add_mod u 18446744073709551616
  rw [← h1, ← h2] at h3
  omega
def sum9 (u v : Nat) : Nat → Nat := fun k => if k < 8 then dg u k + dg v k else 0
theorem V9_dg (u v : Nat) (hu : u < 2 ^ 128) (hv : v < 2 ^ 128) : V9 (sum9 u v) = u + v := by
  have h1 := dg_sum u hu
  have h2 := dg_sum v hv
  unfold V9 sum9
  simp only [Nat.reduceLT, if_true, if_false, Nat.lt_irrefl]
  generalize dg u 0 = a0, dg u 1 = a1, dg u 2 = a2, dg u 3 = a3, dg u 4 = a4, dg u 5 = a5, dg u 6 = a6, dg u 7 = a7 at *
  generalize dg v 0 = b0, dg v 1 = b1, dg v 2 = b2, dg v 3 = b3, dg v 4 = b4, dg v 5 = b5, dg v 6 = b6, dg v 7 = b7 at *
  omega
theorem cy8 (S : Nat → Nat) : V9 S / 65536 ^ 8 = S 8 + cy S 8 := by
  have s : ∀ x y k, (x + 65536 * y) / 65536 ^ (k + 1) = (x / 65536 + y) / 65536 ^ k := by
    intro x y k
    rw [Nat.pow_succ, Nat.mul_comm (65536 ^ k), ← Nat.div_div_eq_div_mul, show (x + 65536 * y) / 65536 = x / 65536 + y by omega]
  have a : ∀ c x y, c + (x + 65536 * y) = (x + c) + 65536 * y := by intros; omega
  unfold V9
  simp only [s, a, cy, Nat.add_zero, Nat.pow_zero, Nat.div_one]
  exact Nat.add_comm _ _
theorem refadd_f (u v : Nat) (hu : u < 2 ^ 128) (hv : v < 2 ^ 128) :
    arrearsref03_Add.f (dg u 0 : Nat) (dg u 1 : Nat) (dg u 2 : Nat) (dg u 3 : Nat) (dg u 4 : Nat) (dg u 5 : Nat) (dg u 6 : Nat) (dg u 7 : Nat) (dg v 0 : Nat) (dg v 1 : Nat) (dg v 2 : Nat) (dg v 3 : Nat) (dg v 4 : Nat) (dg v 5 : Nat) (dg v 6 : Nat) (dg v 7 : Nat)
      = some (((dg (u + v) 0 : Nat) : Int), ((dg (u + v) 1 : Nat) : Int), ((dg (u + v) 2 : Nat) : Int), ((dg (u + v) 3 : Nat) : Int), ((dg (u + v) 4 : Nat) : Int), ((dg (u + v) 5 : Nat) : Int), ((dg (u + v) 6 : Nat) : Int), ((dg (u + v) 7 : Nat) : Int), decide (u + v < 2 ^ 128)) := by
  have e := V9_dg u v hu hv
  have d0 := dg_cy (sum9 u v) 0 (by decide)
  have d1 := dg_cy (sum9 u v) 1 (by decide)
  have d2 := dg_cy (sum9 u v) 2 (by decide)
  have d3 := dg_cy (sum9 u v) 3 (by decide)
  have d4 := dg_cy (sum9 u v) 4 (by decide)
  have d5 := dg_cy (sum9 u v) 5 (by decide)
  have d6 := dg_cy (sum9 u v) 6 (by decide)
  have d7 := dg_cy (sum9 u v) 7 (by decide)
  have d8 := cy8 (sum9 u v)
  have ht : decide (u + v < 2 ^ 128) = (((cy (sum9 u v) 8 : Nat) : Int) == 0) := by
    rw [e, show sum9 u v 8 = 0 from rfl, Nat.zero_add] at d8
    rw [← d8, show ((65536 : Nat) ^ 8) = 2 ^ 128 from by decide]
    have q := Nat.div_eq_zero_iff (a := u + v) (b := 2 ^ 128)
    by_cases c : u + v < 2 ^ 128
    · rw [decide_eq_true c, Nat.div_eq_of_lt c]; rfl
    · rw [decide_eq_false c]
      have : 0 < (u + v) / 2 ^ 128 := Nat.div_pos (Nat.le_of_not_lt c) (by decide)
      symm
      rw [beq_eq_false_iff_ne]
      omega
  rw [e] at d0 d1 d2 d3 d4 d5 d6 d7
  unfold arrearsref03_Add.f
  rw [if_pos ⟨dg_bd u 0, dg_bd u 1, dg_bd u 2, dg_bd u 3, dg_bd u 4, dg_bd u 5, dg_bd u 6, dg_bd u 7, dg_bd v 0, dg_bd v 1, dg_bd v 2, dg_bd v 3, dg_bd v 4, dg_bd v 5, dg_bd v 6, dg_bd v 7⟩, ht, d0, d1, d2, d3, d4, d5, d6, d7]
  simp only [sum9, cy, Nat.reduceLT, if_true, Nat.add_zero, Int.natCast_emod, Int.natCast_add, Int.natCast_ediv, Int.cast_ofNat_Int, Int.natCast_zero, Int.add_zero]
theorem refof_f (hi lo : Nat) (h : hi < 18446744073709551616) (l : lo < 18446744073709551616) :
    arrearsref03_Of.f hi lo = some (((dg (hi * 18446744073709551616 + lo) 0 : Nat) : Int), ((dg (hi * 18446744073709551616 + lo) 1 : Nat) : Int), ((dg (hi * 18446744073709551616 + lo) 2 : Nat) : Int), ((dg (hi * 18446744073709551616 + lo) 3 : Nat) : Int), ((dg (hi * 18446744073709551616 + lo) 4 : Nat) : Int), ((dg (hi * 18446744073709551616 + lo) 5 : Nat) : Int), ((dg (hi * 18446744073709551616 + lo) 6 : Nat) : Int), ((dg (hi * 18446744073709551616 + lo) 7 : Nat) : Int)) := by
  unfold arrearsref03_Of.f
  rw [if_pos (by omega)]
  simp only [dg, Option.some.injEq, Prod.mk.injEq, Nat.reducePow, Nat.div_one]
  refine ⟨?_, ?_, ?_, ?_, ?_, ?_, ?_, ?_⟩ <;> omega
end

theorem refunit (parts : Int) (b : Int) : arrearsref09_Unit.f parts (b == 2) = some (unitOf b) := by
  unfold arrearsref09_Unit.f unitOf
  by_cases c : b = 2
  · subst c; rfl
  · rw [if_neg (by simpa using c), if_neg c]
/-- The reference's interest of so many days. -/
theorem refdays_ok (parts b p days carry : Int) (h0 : 0 ≤ parts) (hc : 0 ≤ carry) (h : fitsAll parts b p days carry) :
    arrearsref09_Days.f parts (b == 2) p days carry = some (whole parts b p days carry, rest parts b p days carry) := by
  have hw := whole_bd parts b p days carry h0 hc h
  have hu := unitOf_bd b
  obtain ⟨h1, h2, h3, h4, h5⟩ := h
  obtain ⟨a0, a1, b0, b1⟩ := prod_bd parts p days h0 h1 h3 h4
  unfold arrearsref09_Days.f
  rw [u64_in (n := p) (by omega) (by omega), u64_in (n := parts) (by omega) (by omega), u64_in (n := days) (by omega) (by omega), u64_in (n := parts * days) (by omega) (by omega)]
  unfold whole rest at hw ⊢
  generalize parts * days = Q at *
  obtain ⟨x, rfl⟩ := Int.eq_ofNat_of_zero_le h3.1
  obtain ⟨y, rfl⟩ := Int.eq_ofNat_of_zero_le a0
  obtain ⟨c, rfl⟩ := Int.eq_ofNat_of_zero_le hc
  obtain ⟨n, hn⟩ := Int.eq_ofNat_of_zero_le (show 0 ≤ unitOf b by omega)
  rw [← Int.natCast_mul] at b1 b0 hw ⊢
  rw [refmul_f x y (by omega) (by omega), refunit]
  have hof := refof_f 0 c (by decide) (by omega)
  rw [Nat.zero_mul, Nat.zero_add] at hof
  rw [show ((0 : Nat) : Int) = 0 from rfl] at hof
  rw [hof]
  simp only [Option.bind_some]
  have hxy : x * y < 2 ^ 128 := prod_lt x y (by omega) (by omega)
  rw [refadd_f (x * y) c hxy (by omega)]
  simp only [Option.bind_some]
  have hs : x * y + c < 2 ^ 128 := by omega
  rw [hn] at hw hu ⊢
  rw [refdiv_f (x * y + c) n hs (by omega) (by omega)]
  simp only [Option.bind_some]
  rw [refword_f _ (Nat.lt_of_le_of_lt (Nat.div_le_self _ _) hs) false]
  simp only [Option.bind_some, Bool.false_eq_true, if_false]
  rw [show ((x * y : Nat) : Int) + (c : Int) = ((x * y + c : Nat) : Int) from (Int.natCast_add _ _).symm] at hw ⊢
  generalize x * y + c = T at *
  rw [show ((T : Int) / (n : Int)) = ((T / n : Nat) : Int) from (Int.natCast_ediv _ _).symm] at hw ⊢
  rw [show ((T : Int) % (n : Int)) = ((T % n : Nat) : Int) from (Int.natCast_emod _ _).symm] at hw ⊢
  generalize T / n = Q2 at *
  rw [show ((Q2 % 18446744073709551616 : Nat) : Int) = Q2 by omega, show wrap64 (Q2 : Int) = Q2 by unfold wrap64; omega]

theorem pure_proved : arrearslaw09_YieldReckons.Pure := by
  intro parts b p days carry hparts hb hp hd hc
  refine ⟨50, ?_⟩
  unfold arrearslaw09_YieldReckons.f
  rw [awake_yes 50 (by omega)]
  simp only [Option.bind_some, if_true]
  have key : ∀ (n l : Int) (e : Option Int) (x : Bool), yield_Rate_Days.f 50 parts b p days carry = some (n, l, e) → x = decide (parts ≤ 1000000 ∧ (b = 1 ∨ b = 2)) → arrearslaw09_YieldReckons.j0 50 p days carry n l e 0 x parts b = some true := by
    intro n l e x hd2 hx
    have j2 : arrearslaw09_YieldReckons.j2 48 p days carry n l e false parts b = some true := by
      simp only [arrearslaw09_YieldReckons.j2, Bool.false_eq_true, if_false]
      rw [lawright_eq]
      simp only [Option.bind_some]
      by_cases h : fitsAll parts b p days carry
      · rw [days_ok 50 (by omega) parts b p days carry hparts.1 hc.1 h] at hd2
        obtain ⟨rfl, rfl, rfl⟩ : _ ∧ _ ∧ _ := by simpa using hd2
        have hw := whole_bd parts b p days carry hparts.1 hc.1 h
        rw [decide_eq_true h]
        simp only [if_true, arrearslaw09_own.f, Option.bind_some]
        rw [refdays_ok parts b p days carry hparts.1 hc.1 h, unit_eq parts b ⟨h.1, h.2.1⟩]
        simp only [Option.bind_some, Option.isNone_none, if_true]
        exact congrArg some (decide_eq_true hw.2.2.2)
      · rw [days_bad 50 (by omega) parts b p days carry h] at hd2
        obtain ⟨rfl, rfl, rfl⟩ : _ ∧ _ ∧ _ := by simpa using hd2
        rw [decide_eq_false h]
        simp only [Bool.false_eq_true, if_false, if_true, api_Code.f, Option.bind_some, Option.getD_some]
        rfl
    have j1 : ∀ u : Int, yield_Rate_Unit.f parts b = some u → (decide (parts ≤ 1000000 ∧ (b = 1 ∨ b = 2)) = decide (u > 0)) → arrearslaw09_YieldReckons.j1 49 p days carry n l e u parts b = some true := by
      intro u hu hh
      simp only [arrearslaw09_YieldReckons.j1]
      rw [hu, rright_eq]
      simp only [Option.bind_some, if_true]
      rw [hh, bne_self_eq_false]
      exact j2
    simp only [arrearslaw09_YieldReckons.j0]
    rw [hx]
    by_cases h : parts ≤ 1000000 ∧ (b = 1 ∨ b = 2)
    · rw [decide_eq_true h]
      simp only [if_true, arrearslaw09_own.f, Option.bind_some]
      rw [refunit]
      simp only [Option.bind_some]
      exact j1 _ (unit_eq parts b h) (by rw [decide_eq_true h, decide_eq_true (by have := unitOf_bd b; omega)])
    · rw [decide_eq_false h]
      simp only [Bool.false_eq_true, if_false]
      exact j1 _ (unit_no parts b h) (by rw [decide_eq_false h]; rfl)
  have hd2 : ∃ n l e, yield_Rate_Days.f 50 parts b p days carry = some (n, l, e) := by
    by_cases h : fitsAll parts b p days carry
    · exact ⟨_, _, _, days_ok 50 (by omega) parts b p days carry hparts.1 hc.1 h⟩
    · exact ⟨_, _, _, days_bad 50 (by omega) parts b p days carry h⟩
  obtain ⟨n, l, e, hd2⟩ := hd2
  rw [hd2]
  simp only [Option.bind_some]
  by_cases c1 : parts ≤ 1000000
  · rw [if_pos c1]
    by_cases c2 : b = 1
    · rw [if_pos c2]
      exact key n l e true hd2 (by rw [decide_eq_true]; exact ⟨c1, .inl c2⟩)
    · rw [if_neg c2]
      refine key n l e (b == 2) hd2 ?_
      by_cases c3 : b = 2
      · rw [decide_eq_true (show parts ≤ 1000000 ∧ (b = 1 ∨ b = 2) from ⟨c1, .inr c3⟩)]; simpa using c3
      · rw [decide_eq_false (show ¬ (parts ≤ 1000000 ∧ (b = 1 ∨ b = 2)) by omega)]; simpa using c3
  · rw [if_neg c1]
    exact key n l e false hd2 (by rw [decide_eq_false]; omega)

end Go.Proofs.YtldicnmpegkicaaDoor.PYieldReckons
