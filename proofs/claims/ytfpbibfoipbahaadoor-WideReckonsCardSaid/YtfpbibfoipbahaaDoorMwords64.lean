import Derived.Test.YtfpbibfoipbahaaDoorWWords
import Derived.Test.YtfpbibfoipbahaaDoorWMore
import Derived.Laws.BitsLemmas
set_option linter.unusedVariables false
set_option linter.unusedSimpArgs false
namespace Go.Proofs.YtfpbibfoipbahaaDoor.M
open Go.Proofs.YtfpbibfoipbahaaDoorW.PrintWords Go.Proofs.YtfpbibfoipbahaaDoorW.PrintMore
theorem u64_wrap (n : Int) : IntKind.u64.wrap n = n % 18446744073709551616 := by simp [IntKind.wrap, IntKind.bits, IntKind.signed]
theorem u64_in {n : Int} (h0 : 0 ≤ n) (h1 : n < 18446744073709551616) : IntKind.u64.wrap n = n := by rw [u64_wrap]; omega
theorem wraps_u64 (n : Int) (h0 : 0 ≤ n) (h1 : n < 2 ^ 64) : IntKind.u64.wrap n = n := by
  rw [u64_wrap]
  have : (2 : Int) ^ 64 = 18446744073709551616 := by decide
  omega
theorem and_mask32 (x : Int) (h0 : 0 ≤ x) (h1 : x < 18446744073709551616) : Go.bits .and .u64 x 4294967295 = x % 4294967296 := by
  have h : (2 : Int) ^ 64 = 18446744073709551616 := by decide
  exact bits_mask .u64 64 (by decide) wraps_u64 32 (by decide) x h0 (by omega)
/-- The high half of a product, part by part. -/
theorem mul_parts (x1 x0 y1 y0 : Int) (hx1 : 0 ≤ x1 ∧ x1 ≤ 4294967295) (hx0 : 0 ≤ x0 ∧ x0 ≤ 4294967295) (hy1 : 0 ≤ y1 ∧ y1 ≤ 4294967295) (hy0 : 0 ≤ y0 ∧ y0 ≤ 4294967295) :
    IntKind.u64.wrap ((IntKind.u64.wrap ((IntKind.u64.wrap (x1 * y1)) + ((IntKind.u64.wrap ((IntKind.u64.wrap (x1 * y0)) + ((IntKind.u64.wrap (x0 * y0)) / 4294967296))) / 4294967296))) + ((IntKind.u64.wrap (((IntKind.u64.wrap ((IntKind.u64.wrap (x1 * y0)) + ((IntKind.u64.wrap (x0 * y0)) / 4294967296))) % 4294967296) + (IntKind.u64.wrap (x0 * y1)))) / 4294967296))
      = ((x1 * 4294967296 + x0) * (y1 * 4294967296 + y0)) / 18446744073709551616 := by
  have b1 : 0 ≤ x1 * y1 ∧ x1 * y1 ≤ 4294967295 * 4294967295 := ⟨Int.mul_nonneg hx1.1 hy1.1, Int.mul_le_mul hx1.2 hy1.2 hy1.1 (by omega)⟩
  have b2 : 0 ≤ x1 * y0 ∧ x1 * y0 ≤ 4294967295 * 4294967295 := ⟨Int.mul_nonneg hx1.1 hy0.1, Int.mul_le_mul hx1.2 hy0.2 hy0.1 (by omega)⟩
  have b3 : 0 ≤ x0 * y1 ∧ x0 * y1 ≤ 4294967295 * 4294967295 := ⟨Int.mul_nonneg hx0.1 hy1.1, Int.mul_le_mul hx0.2 hy1.2 hy1.1 (by omega)⟩
  have b4 : 0 ≤ x0 * y0 ∧ x0 * y0 ≤ 4294967295 * 4294967295 := ⟨Int.mul_nonneg hx0.1 hy0.1, Int.mul_le_mul hx0.2 hy0.2 hy0.1 (by omega)⟩
  have e : (x1 * 4294967296 + x0) * (y1 * 4294967296 + y0) = x1 * y1 * 18446744073709551616 + (x1 * y0 + x0 * y1) * 4294967296 + x0 * y0 := by
    rw [Int.add_mul, Int.mul_add, Int.mul_add]
    have e1 : x1 * 4294967296 * (y1 * 4294967296) = x1 * y1 * 18446744073709551616 := by
      rw [show (18446744073709551616 : Int) = 4294967296 * 4294967296 by decide]; ac_rfl
    have e2 : x1 * 4294967296 * y0 = x1 * y0 * 4294967296 := by ac_rfl
    have e3 : x0 * (y1 * 4294967296) = x0 * y1 * 4294967296 := by ac_rfl
    rw [e1, e2, e3]
    omega
  rw [e]
  generalize x1 * y1 = p at *
  generalize x1 * y0 = q at *
  generalize x0 * y1 = r at *
  generalize x0 * y0 = s at *
  clear e
  rw [u64_in b4.1 (by omega), u64_in b2.1 (by omega), u64_in b1.1 (by omega), u64_in b3.1 (by omega)]
  rw [u64_in (n := q + s / 4294967296) (by omega) (by omega)]
  rw [u64_in (n := (q + s / 4294967296) % 4294967296 + r) (by omega) (by omega)]
  rw [u64_in (n := p + (q + s / 4294967296) / 4294967296) (by omega) (by omega)]
  rw [u64_in (by omega) (by omega)]
  omega
/-! ### A quotient's digit -/
/-- One try: with a test that says whether the digit is too great. -/
theorem digit_test {N Y q rh un1 yn1 yn0 U : Int} (hY : Y = yn1 * 4294967296 + yn0) (hN : N = U * 4294967296 + un1) (hr : rh = U - q * yn1) : (q * yn0 > 4294967296 * rh + un1) ↔ q * Y > N := by
  subst hr hN hY
  rw [Int.mul_add, Int.mul_sub]
  have e : q * (yn1 * 4294967296) = 4294967296 * (q * yn1) := by ac_rfl
  rw [e]
  constructor <;> intro h <;> omega
theorem too_great {N Y q : Int} (hY : 0 < Y) : q * Y > N ↔ N / Y < q := by
  constructor
  · intro h; exact Int.ediv_lt_of_lt_mul hY h
  · intro h; exact Int.lt_mul_of_ediv_lt hY h
/-- What is known of a digit while it is tried. -/
structure Digit (Y yn1 yn0 U un1 q rh : Int) : Prop where
  hY : Y = yn1 * 4294967296 + yn0
  h1 : 2147483648 ≤ yn1 ∧ yn1 ≤ 4294967295
  h0 : 0 ≤ yn0 ∧ yn0 ≤ 4294967295
  hU : 0 ≤ U ∧ U < Y
  hu : 0 ≤ un1 ∧ un1 ≤ 4294967295
  hr : rh = U - q * yn1
  hr0 : 0 ≤ rh ∧ rh < 4294967296
  hq : (U * 4294967296 + un1) / Y ≤ q ∧ 0 ≤ q ∧ q ≤ 4294967297
theorem Digit.pos {Y yn1 yn0 U un1 q rh : Int} (d : Digit Y yn1 yn0 U un1 q rh) : 0 < Y := by have := d.hY; have := d.h1; have := d.h0; omega
theorem Digit.fits {Y yn1 yn0 U un1 q rh : Int} (d : Digit Y yn1 yn0 U un1 q rh) : 0 ≤ (U * 4294967296 + un1) / Y ∧ (U * 4294967296 + un1) / Y ≤ 4294967295 := by
  have hp := d.pos; have h1 := d.hU; have h2 := d.hu
  constructor
  · exact Int.ediv_nonneg (by omega) (by omega)
  · have : (U * 4294967296 + un1) / Y < 4294967296 := Int.ediv_lt_of_lt_mul hp (by omega)
    omega
/-- The first guess. -/
theorem Digit.start {Y yn1 yn0 U un1 : Int} (hY : Y = yn1 * 4294967296 + yn0) (h1 : 2147483648 ≤ yn1 ∧ yn1 ≤ 4294967295) (h0 : 0 ≤ yn0 ∧ yn0 ≤ 4294967295) (hU : 0 ≤ U ∧ U < Y) (hu : 0 ≤ un1 ∧ un1 ≤ 4294967295) :
    Digit Y yn1 yn0 U un1 (U / yn1) (U - U / yn1 * yn1) := by
  have e : U - U / yn1 * yn1 = U % yn1 := by rw [Int.emod_def, Int.mul_comm]
  have m0 := Int.emod_nonneg U (show yn1 ≠ 0 by omega)
  have m1 := Int.emod_lt_of_pos U (show 0 < yn1 by omega)
  have hp : 0 < Y := by omega
  have q0 : 0 ≤ U / yn1 := Int.ediv_nonneg hU.1 (by omega)
  refine ⟨hY, h1, h0, hU, hu, rfl, by omega, ?_, q0, ?_⟩
  · have : (U * 4294967296 + un1) / Y < U / yn1 + 1 := by
      refine Int.ediv_lt_of_lt_mul hp ?_
      have h2 : U < (U / yn1 + 1) * yn1 := by
        have := Int.mul_ediv_add_emod U yn1
        rw [Int.add_mul, Int.one_mul, Int.mul_comm (U / yn1) yn1]
        omega
      have h3 : (U / yn1 + 1) * (yn1 * 4294967296) ≤ (U / yn1 + 1) * Y := Int.mul_le_mul_of_nonneg_left (by omega) (by omega)
      have h4 : (U / yn1 + 1) * (yn1 * 4294967296) = (U / yn1 + 1) * yn1 * 4294967296 := by ac_rfl
      omega
    omega
  · have : U / yn1 < 4294967298 := by
      refine Int.ediv_lt_of_lt_mul (by omega) ?_
      omega
    omega
theorem Digit.great {Y yn1 yn0 U un1 q rh : Int} (d : Digit Y yn1 yn0 U un1 q rh) (h : q ≥ 4294967296) : (U * 4294967296 + un1) / Y < q := by have := d.fits; omega
theorem Digit.test {Y yn1 yn0 U un1 q rh : Int} (d : Digit Y yn1 yn0 U un1 q rh) (h : q < 4294967296) :
    (IntKind.u64.wrap (q * yn0) > IntKind.u64.wrap (IntKind.u64.wrap (4294967296 * rh) + un1)) ↔ (U * 4294967296 + un1) / Y < q := by
  have hq := d.hq; have h0 := d.h0; have hr0 := d.hr0; have hu := d.hu
  have b : 0 ≤ q * yn0 ∧ q * yn0 ≤ 4294967295 * 4294967295 := ⟨Int.mul_nonneg hq.2.1 h0.1, Int.mul_le_mul (by omega) h0.2 h0.1 (by omega)⟩
  rw [u64_in b.1 (by omega), u64_in (n := 4294967296 * rh) (by omega) (by omega), u64_in (by omega) (by omega)]
  rw [digit_test d.hY rfl d.hr, too_great d.pos]
theorem Digit.less {Y yn1 yn0 U un1 q rh : Int} (d : Digit Y yn1 yn0 U un1 q rh) (h : (U * 4294967296 + un1) / Y < q) (hs : rh + yn1 < 4294967296) : Digit Y yn1 yn0 U un1 (q - 1) (rh + yn1) := by
  have hf := d.fits; have hq := d.hq; have h1 := d.h1; have hr0 := d.hr0
  refine ⟨d.hY, d.h1, d.h0, d.hU, d.hu, ?_, ⟨by omega, hs⟩, by omega, by omega, by omega⟩
  rw [Int.sub_mul, d.hr]
  omega
theorem Digit.last {Y yn1 yn0 U un1 q rh : Int} (d : Digit Y yn1 yn0 U un1 q rh) (h : (U * 4294967296 + un1) / Y < q) (hs : rh + yn1 ≥ 4294967296) : q - 1 = (U * 4294967296 + un1) / Y := by
  have hq := d.hq; have h0 := d.h0; have hu := d.hu
  have hn : ¬ (U * 4294967296 + un1) / Y < q - 1 := by
    rw [← too_great d.pos, ← digit_test (q := q - 1) (rh := rh + yn1) d.hY rfl (by rw [Int.sub_mul, d.hr]; omega)]
    have b : (q - 1) * yn0 ≤ 4294967296 * 4294967295 := Int.mul_le_mul (by omega) h0.2 h0.1 (by omega)
    omega
  omega
theorem digit_rest (N Y : Int) (hY : 0 < Y) : 0 ≤ N - N / Y * Y ∧ N - N / Y * Y < Y := by
  have e : N - N / Y * Y = N % Y := by rw [Int.emod_def, Int.mul_comm]
  rw [e]
  exact ⟨Int.emod_nonneg _ (by omega), Int.emod_lt_of_pos _ hY⟩
/-- What is left, told round. -/
theorem rest_wrap (U un1 Y Q : Int) (h0 : 0 ≤ U * 4294967296 + un1 - Q * Y) (h1 : U * 4294967296 + un1 - Q * Y < 18446744073709551616) :
    IntKind.u64.wrap (IntKind.u64.wrap (IntKind.u64.wrap (U * 4294967296) + un1) - IntKind.u64.wrap (Q * Y)) = U * 4294967296 + un1 - Q * Y := by
  simp only [u64_wrap]
  generalize Q * Y = z at *
  omega
/-- Both digits, and what is left, of a number that was shifted. -/
theorem two_digits {T Y un32 un1 un0 P y : Int} (hP : 0 < P) (hy : 0 < y) (hY : Y = y * P) (hT : T * P = (un32 * 4294967296 + un1) * 4294967296 + un0) (hun0 : 0 ≤ un0 ∧ un0 ≤ 4294967295)
    {Q1 Q0 r1 R : Int} (hQ1 : Q1 = (un32 * 4294967296 + un1) / Y) (hr1 : r1 = un32 * 4294967296 + un1 - Q1 * Y) (hQ0 : Q0 = (r1 * 4294967296 + un0) / Y) (hR : R = r1 * 4294967296 + un0 - Q0 * Y) :
    Q1 * 4294967296 + Q0 = T / y ∧ R / P = T % y := by
  have hYp : 0 < Y := by rw [hY]; exact Int.mul_pos hy hP
  have hRb : 0 ≤ R ∧ R < Y := by rw [hR, hQ0]; exact digit_rest _ _ hYp
  have e : T * P = (Q1 * 4294967296 + Q0) * y * P + R := by
    have e1 : (Q1 * 4294967296 + Q0) * y * P = (Q1 * Y) * 4294967296 + Q0 * Y := by
      rw [Int.mul_assoc, ← hY, Int.add_mul]
      have : Q1 * 4294967296 * Y = Q1 * Y * 4294967296 := by ac_rfl
      omega
    rw [e1, hT, hR, hr1]
    omega
  have hRd : R = (T - (Q1 * 4294967296 + Q0) * y) * P := by rw [Int.sub_mul]; omega
  have hd : R / P = T - (Q1 * 4294967296 + Q0) * y := by rw [hRd, Int.mul_ediv_cancel _ (by omega)]
  have b0 : 0 ≤ T - (Q1 * 4294967296 + Q0) * y := by
    rw [← hd]; exact Int.ediv_nonneg hRb.1 (by omega)
  have b1 : T - (Q1 * 4294967296 + Q0) * y < y := by
    rw [← hd]
    refine Int.ediv_lt_of_lt_mul hP ?_
    rw [← hY]; exact hRb.2
  have q : T / y = Q1 * 4294967296 + Q0 := by
    rw [show T = (T - (Q1 * 4294967296 + Q0) * y) + (Q1 * 4294967296 + Q0) * y by omega, Int.add_mul_ediv_right _ _ (by omega), Int.ediv_eq_zero_of_lt b0 b1, Int.zero_add]
  refine ⟨q.symm, ?_⟩
  rw [hd, Int.emod_def, q, Int.mul_comm y]
/-! ### Shifts by a count -/
theorem two_pow_split (s : Nat) (hs : s ≤ 63) : (2 : Int) ^ s * 2 ^ (64 - s) = 18446744073709551616 := by
  rw [← Int.pow_add, show s + (64 - s) = 64 by omega]; decide
theorem two_pow_pos (s : Nat) : 0 < (2 : Int) ^ s := Int.pow_pos (by decide)
theorem shl_eq (x : Int) (s : Nat) (hs : s ≤ 63) : shl .u64 x (s : Int) = (x * 2 ^ s) % 18446744073709551616 := by
  unfold shl
  rw [u64_wrap, Int.toNat_natCast, Nat.min_eq_left (show s ≤ IntKind.u64.bits by show s ≤ 64; omega)]
theorem shr_eq (x : Int) (s : Nat) (hs : s ≤ 64) : shr .u64 x (s : Int) = x / 2 ^ s := by
  unfold shr
  rw [Int.toNat_natCast, Nat.min_eq_left (show s ≤ IntKind.u64.bits from hs)]
theorem p64 : (2 : Int) ^ 64 = 18446744073709551616 := by decide
theorem or_join (x y : Int) (s : Nat) (hx0 : 0 ≤ x) (hx : x % 2 ^ s = 0) (hx1 : x < 18446744073709551616) (hy0 : 0 ≤ y) (hy : y < 2 ^ s) (hy1 : y < 18446744073709551616) : Go.bits .or .u64 x y = x + y := by
  have h := p64
  exact bits_join .u64 64 (by decide) wraps_u64 s x y hx0 hx (by omega) hy0 hy (by omega)
/-- What is divided, shifted: its upper word, its lower one. -/
theorem shifted {hi lo y : Int} {s : Nat} (hs : s ≤ 63) (hhi : 0 ≤ hi ∧ hi < y) (hlo : 0 ≤ lo ∧ lo < 18446744073709551616) (hy : y * 2 ^ s < 18446744073709551616) :
    Go.bits .or .u64 (shl .u64 hi (s : Int)) (shr .u64 lo ((64 - s : Nat) : Int)) = hi * 2 ^ s + lo / 2 ^ (64 - s) ∧ shl .u64 lo (s : Int) = lo % 2 ^ (64 - s) * 2 ^ s ∧
      0 ≤ hi * 2 ^ s + lo / 2 ^ (64 - s) ∧ hi * 2 ^ s + lo / 2 ^ (64 - s) < y * 2 ^ s ∧ 0 ≤ lo % 2 ^ (64 - s) * 2 ^ s ∧ lo % 2 ^ (64 - s) * 2 ^ s < 18446744073709551616 ∧
      (hi * 18446744073709551616 + lo) * 2 ^ s = (hi * 2 ^ s + lo / 2 ^ (64 - s)) * 18446744073709551616 + lo % 2 ^ (64 - s) * 2 ^ s := by
  have hsp := two_pow_split s hs
  have hP := two_pow_pos s
  have hD := two_pow_pos (64 - s)
  rw [shl_eq hi s hs, shr_eq lo (64 - s) (by omega), shl_eq lo s hs]
  generalize (2 : Int) ^ (64 - s) = D at *
  have b1 : 0 ≤ hi * 2 ^ s := Int.mul_nonneg hhi.1 (by omega)
  have b2 : hi * 2 ^ s + 2 ^ s ≤ y * 2 ^ s := by
    have := Int.mul_le_mul_of_nonneg_right (show hi + 1 ≤ y by omega) (show 0 ≤ (2 : Int) ^ s by omega)
    rw [Int.add_mul, Int.one_mul] at this
    exact this
  have d0 : 0 ≤ lo / D := Int.ediv_nonneg hlo.1 (by omega)
  have d1 : lo / D < 2 ^ s := Int.ediv_lt_of_lt_mul hD (by rw [hsp]; exact hlo.2)
  have m0 : 0 ≤ lo % D := Int.emod_nonneg _ (by omega)
  have m1 : lo % D < D := Int.emod_lt_of_pos _ hD
  have n0 : 0 ≤ lo % D * 2 ^ s := Int.mul_nonneg m0 (by omega)
  have n1 : lo % D * 2 ^ s + 2 ^ s ≤ 18446744073709551616 := by
    have := Int.mul_le_mul_of_nonneg_right (show lo % D + 1 ≤ D by omega) (show 0 ≤ (2 : Int) ^ s by omega)
    rw [Int.add_mul, Int.one_mul, Int.mul_comm D, hsp] at this
    exact this
  have eL : lo * 2 ^ s = lo / D * 18446744073709551616 + lo % D * 2 ^ s := by
    have := Int.mul_ediv_add_emod lo D
    have e1 : (D * (lo / D) + lo % D) * 2 ^ s = lo / D * (2 ^ s * D) + lo % D * 2 ^ s := by
      rw [Int.add_mul]
      congr 1
      ac_rfl
    rw [this, hsp] at e1
    exact e1
  have w1 : hi * 2 ^ s % 18446744073709551616 = hi * 2 ^ s := Int.emod_eq_of_lt b1 (by omega)
  have w2 : lo * 2 ^ s % 18446744073709551616 = lo % D * 2 ^ s := by rw [eL]; omega
  rw [w1, w2]
  refine ⟨?_, rfl, by omega, by omega, n0, by omega, ?_⟩
  · refine or_join _ _ s b1 (Int.mul_emod_left _ _) (by omega) d0 d1 (by omega)
  · rw [Int.add_mul, eL]
    have : hi * 18446744073709551616 * 2 ^ s = hi * 2 ^ s * 18446744073709551616 := by ac_rfl
    rw [this]
    omega
/-- How far a number must be shifted: of its highest byte. -/
theorem lz_fin (y i : Int) (t v : Nat) (hi : i = y / 2 ^ t) (hv : 1 ≤ v ∧ v ≤ 8) (ht : t ≤ 56) (hlo : (2 : Int) ^ (v - 1) ≤ i) (hhi : i < 2 ^ v) :
    9223372036854775808 ≤ y * 2 ^ (64 - t - v) ∧ y * 2 ^ (64 - t - v) < 18446744073709551616 := by
  have hA := two_pow_pos t
  have hC := two_pow_pos (64 - t - v)
  have e1 : (2 : Int) ^ (v - 1) * 2 ^ t * 2 ^ (64 - t - v) = 9223372036854775808 := by
    rw [← Int.pow_add, ← Int.pow_add, show v - 1 + t + (64 - t - v) = 63 by omega]; decide
  have e2 : (2 : Int) ^ v * 2 ^ t * 2 ^ (64 - t - v) = 18446744073709551616 := by
    rw [← Int.pow_add, ← Int.pow_add, show v + t + (64 - t - v) = 64 by omega]; decide
  have l1 : i * 2 ^ t ≤ y := by rw [hi]; exact Int.ediv_mul_le y (by omega)
  have l2 : y < (i + 1) * 2 ^ t := by rw [hi]; exact Int.lt_ediv_add_one_mul_self y hA
  constructor
  · rw [← e1]
    refine Int.mul_le_mul_of_nonneg_right (Int.le_trans ?_ l1) (by omega)
    exact Int.mul_le_mul_of_nonneg_right hlo (by omega)
  · rw [← e2]
    refine Int.mul_lt_mul_of_pos_right (Int.lt_of_lt_of_le l2 ?_) hC
    exact Int.mul_le_mul_of_nonneg_right (by omega) (by omega)
theorem tdiv_nn {a b : Int} (h : 0 ≤ a) : Int.tdiv a b = a / b := Int.tdiv_eq_ediv_of_nonneg h
theorem tmod_nn {a b : Int} (h : 0 ≤ a) : Int.tmod a b = a % b := Int.tmod_eq_emod_of_nonneg h

end Go.Proofs.YtfpbibfoipbahaaDoor.M
