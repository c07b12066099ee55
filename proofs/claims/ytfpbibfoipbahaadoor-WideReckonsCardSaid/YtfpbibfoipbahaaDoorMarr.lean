import Derived.Test.YtfpbibfoipbahaaDoorMdig
import Derived.LoopN
import Derived.RowKit
set_option linter.unusedVariables false
set_option linter.unusedSimpArgs false
namespace Go.Proofs.YtfpbibfoipbahaaDoor.M
def findR (n : Nat) : Code → Option (Array Oper × Bool)
  | .region id ops d => if id == n then some (ops, d) else none
  | .seq a b => (findR n a).orElse fun _ => findR n b
  | .cond _ a b => (findR n a).orElse fun _ => findR n b
  | .block _ a => findR n a
  | .loop a => findR n a
  | .scope a => findR n a
  | _ => none
theorem wrap_pow (r : Nat) (h : r < 16) : IntKind.u32.wrap (2 ^ r) = 2 ^ r := by
  have : r = 0 ∨ r = 1 ∨ r = 2 ∨ r = 3 ∨ r = 4 ∨ r = 5 ∨ r = 6 ∨ r = 7 ∨ r = 8 ∨ r = 9 ∨ r = 10 ∨ r = 11 ∨ r = 12 ∨ r = 13 ∨ r = 14 ∨ r = 15 := by omega
  rcases this with rfl | rfl | rfl | rfl | rfl | rfl | rfl | rfl | rfl | rfl | rfl | rfl | rfl | rfl | rfl | rfl <;> decide
theorem u64w (n : Int) : IntKind.u64.wrap n = n % 18446744073709551616 := by simp [IntKind.wrap, IntKind.bits, IntKind.signed]
theorem u32w (n : Int) : IntKind.u32.wrap n = n % 4294967296 := by simp [IntKind.wrap, IntKind.bits, IntKind.signed]
theorem or64 (a b : Nat) (ha : a < 18446744073709551616) (hb : b < 18446744073709551616) : bits .or .u64 (a : Int) (b : Int) = ((a ||| b : Nat) : Int) := by
  have hx : a ||| b < 2 ^ 64 := Nat.or_lt_two_pow (by omega) (by omega)
  have h1 : (BitVec.ofInt 64 (a : Int)).toNat = a := by
    rw [BitVec.ofInt_natCast, BitVec.toNat_ofNat]; exact Nat.mod_eq_of_lt (by omega)
  have h2 : (BitVec.ofInt 64 (b : Int)).toNat = b := by
    rw [BitVec.ofInt_natCast, BitVec.toNat_ofNat]; exact Nat.mod_eq_of_lt (by omega)
  show IntKind.u64.wrap ((BitVec.ofInt 64 (a : Int) ||| BitVec.ofInt 64 (b : Int)).toNat : Int) = _
  rw [BitVec.toNat_or, h1, h2, u64w]
  omega
theorem or32 (a b : Nat) (ha : a < 4294967296) (hb : b < 4294967296) : bits .or .u32 (a : Int) (b : Int) = ((a ||| b : Nat) : Int) := by
  have hx : a ||| b < 2 ^ 32 := Nat.or_lt_two_pow (by omega) (by omega)
  have h1 : (BitVec.ofInt 32 (a : Int)).toNat = a := by
    rw [BitVec.ofInt_natCast, BitVec.toNat_ofNat]; exact Nat.mod_eq_of_lt (by omega)
  have h2 : (BitVec.ofInt 32 (b : Int)).toNat = b := by
    rw [BitVec.ofInt_natCast, BitVec.toNat_ofNat]; exact Nat.mod_eq_of_lt (by omega)
  show IntKind.u32.wrap ((BitVec.ofInt 32 (a : Int) ||| BitVec.ofInt 32 (b : Int)).toNat : Int) = _
  rw [BitVec.toNat_or, h1, h2, u32w]
  omega
theorem bit_eq (N m : Nat) (D : Int) (h : D = (dg N (m / 16) : Nat)) : (IntKind.u64.wrap (D / 2 ^ (m % 16))).tmod 2 = ((N / 2 ^ m % 2 : Nat) : Int) := by
  subst h
  have e : ((dg N (m / 16) : Nat) : Int) / 2 ^ (m % 16) = ((dg N (m / 16) / 2 ^ (m % 16) : Nat) : Int) := by
    rw [Int.natCast_ediv, Int.natCast_pow]; rfl
  have hlt : dg N (m / 16) / 2 ^ (m % 16) < 65536 := Nat.lt_of_le_of_lt (Nat.div_le_self _ _) (dg_lt _ _)
  rw [e, u64w, ← dg_bit]
  generalize dg N (m / 16) / 2 ^ (m % 16) = z at hlt
  rw [show ((z : Int) % 18446744073709551616) = z by omega, Int.tmod_eq_emod_of_nonneg (by omega)]
  omega
theorem two_or (l b : Nat) (hb : b < 2) : 2 * l ||| b = 2 * l + b := (Nat.two_pow_add_eq_or_of_lt (i := 1) (by omega) l).symm
theorem or_low (l b : Nat) (hl : l < 9223372036854775808) (hb : b < 2) : bits .or .u64 ((l : Int) * 2) (b : Int) = ((2 * l + b : Nat) : Int) := by
  rw [show (l : Int) * 2 = ((2 * l : Nat) : Int) by omega, or64 _ _ (by omega) (by omega), two_or _ _ hb]
theorem or_top (l b : Nat) (h1 : 9223372036854775808 ≤ l) (hl : l < 18446744073709551616) (hb : b < 2) : bits .or .u64 (IntKind.u64.wrap ((l : Int) * 2)) (b : Int) = ((2 * l + b : Nat) : Int) - 18446744073709551616 := by
  rw [u64w, show (l : Int) * 2 % 18446744073709551616 = ((2 * (l - 9223372036854775808) : Nat) : Int) by omega, or64 _ _ (by omega) (by omega), two_or _ _ hb]
  omega
theorem or_dig (q m : Nat) (D : Int) (h : D = (dg (2 ^ (m + 1) * q) (m / 16) : Nat)) : bits .or .u32 D (2 ^ (m % 16)) = ((dg (2 ^ m * (2 * q + 1)) (m / 16) : Nat) : Int) := by
  subst h
  have hp : 2 ^ (m % 16) < 65536 := by
    have : 2 ^ (m % 16) < 2 ^ 16 := Nat.pow_lt_pow_right (by decide) (Nat.mod_lt _ (by decide))
    exact this
  have d := dg_lt (2 ^ (m + 1) * q) (m / 16)
  rw [show ((2 : Int) ^ (m % 16)) = ((2 ^ (m % 16) : Nat) : Int) by rw [Int.natCast_pow]; rfl, or32 _ _ (by omega) (by omega), dg_or]
  rw [show 2 ^ (m + 1) * q + 2 ^ m = 2 ^ m * (2 * q + 1) by rw [Nat.pow_succ, Nat.mul_add, Nat.mul_one, Nat.mul_assoc]]
theorem dg_ne2 (q m k : Nat) (hk : k ≠ m / 16) : dg (2 ^ m * (2 * q + 1)) k = dg (2 ^ (m + 1) * q) k := by
  rw [← dg_ne q m k hk, show 2 ^ (m + 1) * q + 2 ^ m = 2 ^ m * (2 * q + 1) by rw [Nat.pow_succ, Nat.mul_add, Nat.mul_one, Nat.mul_assoc]]
theorem next_ge (N n m q l : Nat) (hq : N / 2 ^ (m + 1) = q * n + l) (hl : l < n) (h : n ≤ 2 * l + N / 2 ^ m % 2) : N / 2 ^ m = (2 * q + 1) * n + (2 * l + N / 2 ^ m % 2 - n) ∧ 2 * l + N / 2 ^ m % 2 - n < n := by
  have h1 := half_step N m
  have h2 := div_step _ q n l (N / 2 ^ m % 2) hq hl
  rw [if_pos h] at h2
  exact ⟨h1.trans h2, by omega⟩
theorem next_lt (N n m q l : Nat) (hq : N / 2 ^ (m + 1) = q * n + l) (hl : l < n) (h : ¬ n ≤ 2 * l + N / 2 ^ m % 2) : N / 2 ^ m = 2 * q * n + (2 * l + N / 2 ^ m % 2) ∧ 2 * l + N / 2 ^ m % 2 < n := by
  have h1 := half_step N m
  have h2 := div_step _ q n l (N / 2 ^ m % 2) hq hl
  rw [if_neg h] at h2
  exact ⟨h1.trans h2, by omega⟩
theorem rounds_inv {P : Program} {c : Code} {Q : Exit → Act → World → Prop} (I : Nat → Act → World → Prop)
    (step : ∀ n a w, I n a w → ∀ K : Act → World → Prop, (∀ m a' w', n = m + 1 → I m a' w' → K a' w') → c.wp P (Exit.then K Q) a w) :
    ∀ n a w, I n a w → Code.rounds P c Q (n + 1) a w := by
  intro n
  induction n with
  | zero => intro a w h; exact step 0 a w h _ (fun m a' w' e _ => absurd e (by omega))
  | succ n ih => intro a w h; exact step (n + 1) a w h _ (fun m a' w' e h' => by rw [show m = n by omega] at h'; exact ih a' w' h')
def cells8 (S : Nat → Nat) : Array Value := #[.int .u32 (S 0 : Nat), .int .u32 (S 1 : Nat), .int .u32 (S 2 : Nat), .int .u32 (S 3 : Nat), .int .u32 (S 4 : Nat), .int .u32 (S 5 : Nat), .int .u32 (S 6 : Nat), .int .u32 (S 7 : Nat)]
theorem cells8_get (S : Nat → Nat) (k : Nat) (hk : k < 8) : (cells8 S)[k]? = some (.int .u32 (S k : Nat)) := by
  have h : k = 0 ∨ k = 1 ∨ k = 2 ∨ k = 3 ∨ k = 4 ∨ k = 5 ∨ k = 6 ∨ k = 7 := by omega
  rcases h with rfl | rfl | rfl | rfl | rfl | rfl | rfl | rfl <;> rfl
theorem cells8_set (S S' : Nat → Nat) (k : Nat) (hk : k < 8) (v : Int) (hv : v = (S' k : Nat)) (h : ∀ j, j ≠ k → S' j = S j) : (cells8 S).setIfInBounds k (.int .u32 v) = cells8 S' := by
  have hh : k = 0 ∨ k = 1 ∨ k = 2 ∨ k = 3 ∨ k = 4 ∨ k = 5 ∨ k = 6 ∨ k = 7 := by omega
  subst hv
  unfold cells8
  rcases hh with rfl | rfl | rfl | rfl | rfl | rfl | rfl | rfl <;> simp (discharger := decide) [h]
def num8 (x0 x1 x2 x3 x4 x5 x6 x7 : Int) : Nat := (x0 + 65536 * (x1 + 65536 * (x2 + 65536 * (x3 + 65536 * (x4 + 65536 * (x5 + 65536 * (x6 + 65536 * x7))))))).toNat
theorem num8_lt (x0 x1 x2 x3 x4 x5 x6 x7 : Int) (h0 : 0 ≤ x0 ∧ x0 ≤ 65535) (h1 : 0 ≤ x1 ∧ x1 ≤ 65535) (h2 : 0 ≤ x2 ∧ x2 ≤ 65535) (h3 : 0 ≤ x3 ∧ x3 ≤ 65535) (h4 : 0 ≤ x4 ∧ x4 ≤ 65535) (h5 : 0 ≤ x5 ∧ x5 ≤ 65535) (h6 : 0 ≤ x6 ∧ x6 ≤ 65535) (h7 : 0 ≤ x7 ∧ x7 ≤ 65535) : num8 x0 x1 x2 x3 x4 x5 x6 x7 < 2 ^ 128 := by
  unfold num8
  omega
theorem num8_dg (x0 x1 x2 x3 x4 x5 x6 x7 : Int) (h0 : 0 ≤ x0 ∧ x0 ≤ 65535) (h1 : 0 ≤ x1 ∧ x1 ≤ 65535) (h2 : 0 ≤ x2 ∧ x2 ≤ 65535) (h3 : 0 ≤ x3 ∧ x3 ≤ 65535) (h4 : 0 ≤ x4 ∧ x4 ≤ 65535) (h5 : 0 ≤ x5 ∧ x5 ≤ 65535) (h6 : 0 ≤ x6 ∧ x6 ≤ 65535) (h7 : 0 ≤ x7 ∧ x7 ≤ 65535) :
    cells8 (dg (num8 x0 x1 x2 x3 x4 x5 x6 x7)) = #[.int .u32 x0, .int .u32 x1, .int .u32 x2, .int .u32 x3, .int .u32 x4, .int .u32 x5, .int .u32 x6, .int .u32 x7] := by
  obtain ⟨y0, rfl⟩ := Int.eq_ofNat_of_zero_le h0.1
  obtain ⟨y1, rfl⟩ := Int.eq_ofNat_of_zero_le h1.1
  obtain ⟨y2, rfl⟩ := Int.eq_ofNat_of_zero_le h2.1
  obtain ⟨y3, rfl⟩ := Int.eq_ofNat_of_zero_le h3.1
  obtain ⟨y4, rfl⟩ := Int.eq_ofNat_of_zero_le h4.1
  obtain ⟨y5, rfl⟩ := Int.eq_ofNat_of_zero_le h5.1
  obtain ⟨y6, rfl⟩ := Int.eq_ofNat_of_zero_le h6.1
  obtain ⟨y7, rfl⟩ := Int.eq_ofNat_of_zero_le h7.1
  have h := dg_of y0 y1 y2 y3 y4 y5 y6 y7 (by omega) (by omega) (by omega) (by omega) (by omega) (by omega) (by omega) (by omega) (num8 y0 y1 y2 y3 y4 y5 y6 y7) (by unfold num8; omega)
  unfold cells8
  rw [h.1, h.2.1, h.2.2.1, h.2.2.2.1, h.2.2.2.2.1, h.2.2.2.2.2.1, h.2.2.2.2.2.2.1, h.2.2.2.2.2.2.2]

end Go.Proofs.YtfpbibfoipbahaaDoor.M
