set_option linter.unusedVariables false
set_option linter.unusedSimpArgs false
namespace Go.Proofs.YtfpbibfoipbahaaDoor.M
theorem pow16 (m : Nat) : (65536 : Nat) ^ m = 2 ^ (16 * m) := by rw [Nat.pow_mul]
def dg (v k : Nat) : Nat := v / 65536 ^ k % 65536
theorem dg_lt (v k : Nat) : dg v k < 65536 := Nat.mod_lt _ (by decide)
theorem dg_bit (N i : Nat) : dg N (i / 16) / 2 ^ (i % 16) % 2 = N / 2 ^ i % 2 := by
  unfold dg
  have hr : i % 16 < 16 := Nat.mod_lt _ (by decide)
  have e : (65536 : Nat) = 2 ^ (i % 16) * 2 ^ (16 - i % 16) := by rw [← Nat.pow_add, show i % 16 + (16 - i % 16) = 16 by omega]
  have e2 : 2 ^ i = 65536 ^ (i / 16) * 2 ^ (i % 16) := by rw [pow16, ← Nat.pow_add, show 16 * (i / 16) + i % 16 = i by omega]
  have e3 : N / 65536 ^ (i / 16) % 65536 / 2 ^ (i % 16) = N / 65536 ^ (i / 16) / 2 ^ (i % 16) % 2 ^ (16 - i % 16) := by
    conv => lhs; rw [show N / 65536 ^ (i / 16) % 65536 = N / 65536 ^ (i / 16) % (2 ^ (i % 16) * 2 ^ (16 - i % 16)) from by rw [← e]]
    exact Nat.mod_mul_right_div_self _ _ _
  rw [e3, Nat.mod_mod_of_dvd _ (by rw [show 16 - i % 16 = (15 - i % 16) + 1 by omega, Nat.pow_succ]; exact Nat.dvd_mul_left _ _), Nat.div_div_eq_div_mul, ← e2]
theorem dg_ne (q i k : Nat) (hk : k ≠ i / 16) : dg (2 ^ (i + 1) * q + 2 ^ i) k = dg (2 ^ (i + 1) * q) k := by
  unfold dg
  rw [pow16]
  have e : 2 ^ (i + 1) * q + 2 ^ i = 2 ^ i * (2 * q + 1) := by rw [Nat.pow_succ, Nat.mul_add, Nat.mul_one, Nat.mul_assoc]
  have e' : 2 ^ (i + 1) * q = 2 ^ i * (2 * q) := by rw [Nat.pow_succ, Nat.mul_assoc]
  rw [e, e']
  by_cases h : 16 * (k + 1) ≤ i
  · have f : 2 ^ i = 2 ^ (16 * k) * (65536 * 2 ^ (i - 16 * (k + 1))) := by
      rw [show (65536 : Nat) = 2 ^ 16 from rfl, ← Nat.pow_add, ← Nat.pow_add]; congr 1; omega
    rw [f, Nat.mul_assoc, Nat.mul_div_cancel_left _ (Nat.two_pow_pos _), Nat.mul_assoc 65536, Nat.mul_mod_right, Nat.mul_assoc (2 ^ (16 * k)), Nat.mul_div_cancel_left _ (Nat.two_pow_pos _), Nat.mul_assoc 65536, Nat.mul_mod_right]
  · have hk2 : i < 16 * k := by omega
    have f : 2 ^ (16 * k) = 2 ^ i * (2 * 2 ^ (16 * k - i - 1)) := by
      rw [show 2 * 2 ^ (16 * k - i - 1) = 2 ^ (16 * k - i) by rw [Nat.mul_comm, ← Nat.pow_succ]; congr 1; omega, ← Nat.pow_add]; congr 1; omega
    rw [f, Nat.mul_div_mul_left _ _ (Nat.two_pow_pos _), Nat.mul_div_mul_left _ _ (Nat.two_pow_pos _), ← Nat.div_div_eq_div_mul, ← Nat.div_div_eq_div_mul, show (2 * q + 1) / 2 = q by omega, show 2 * q / 2 = q by omega]
theorem dg_or (q i : Nat) : dg (2 ^ (i + 1) * q) (i / 16) ||| 2 ^ (i % 16) = dg (2 ^ (i + 1) * q + 2 ^ i) (i / 16) := by
  unfold dg
  have hr : i % 16 < 16 := Nat.mod_lt _ (by decide)
  have hi : 2 ^ i = 65536 ^ (i / 16) * 2 ^ (i % 16) := by rw [pow16, ← Nat.pow_add, show 16 * (i / 16) + i % 16 = i by omega]
  have hi1 : 2 ^ (i + 1) = 65536 ^ (i / 16) * 2 ^ (i % 16 + 1) := by rw [pow16, ← Nat.pow_add]; congr 1; omega
  have hp : 0 < 65536 ^ (i / 16) := Nat.pow_pos (by decide)
  have e : (65536 : Nat) = 2 ^ (i % 16 + 1) * 2 ^ (15 - i % 16) := by rw [← Nat.pow_add, show i % 16 + 1 + (15 - i % 16) = 16 by omega]
  rw [hi, hi1, Nat.mul_assoc, ← Nat.mul_add, Nat.mul_div_cancel_left _ hp, Nat.mul_div_cancel_left _ hp]
  generalize i % 16 = r at *
  have e1 : 2 ^ (r + 1) * q % 65536 = 2 ^ (r + 1) * (q % 2 ^ (15 - r)) := by
    conv => lhs; rw [e]
    exact Nat.mul_mod_mul_left _ _ _
  have hlt : 2 ^ r < 2 ^ (r + 1) := by rw [Nat.pow_succ]; have := Nat.two_pow_pos r; omega
  have hb : 2 ^ (r + 1) * (q % 2 ^ (15 - r)) + 2 ^ r < 65536 := by
    have h1 : q % 2 ^ (15 - r) + 1 ≤ 2 ^ (15 - r) := Nat.mod_lt _ (Nat.two_pow_pos _)
    have h2 := Nat.mul_le_mul_left (2 ^ (r + 1)) h1
    rw [← e, Nat.mul_add, Nat.mul_one] at h2
    omega
  rw [Nat.add_mod, e1, Nat.mod_eq_of_lt (show 2 ^ r < 65536 from Nat.lt_of_le_of_lt (Nat.le_add_left _ _) hb), Nat.mod_eq_of_lt hb]
  exact (Nat.two_pow_add_eq_or_of_lt hlt _).symm
theorem or_lt16 {a b : Nat} (ha : a < 65536) (hb : b < 65536) : a ||| b < 65536 := Nat.or_lt_two_pow (n := 16) ha hb
/-- the number of which these are the digits -/
theorem dg_of (x0 x1 x2 x3 x4 x5 x6 x7 : Nat) (h0 : x0 < 65536) (h1 : x1 < 65536) (h2 : x2 < 65536) (h3 : x3 < 65536) (h4 : x4 < 65536) (h5 : x5 < 65536) (h6 : x6 < 65536) (h7 : x7 < 65536)
    (N : Nat) (hN : N = x0 + 65536 * (x1 + 65536 * (x2 + 65536 * (x3 + 65536 * (x4 + 65536 * (x5 + 65536 * (x6 + 65536 * x7))))))) :
    dg N 0 = x0 ∧ dg N 1 = x1 ∧ dg N 2 = x2 ∧ dg N 3 = x3 ∧ dg N 4 = x4 ∧ dg N 5 = x5 ∧ dg N 6 = x6 ∧ dg N 7 = x7 := by
  subst hN
  have s : ∀ x y k, x < 65536 → dg (x + 65536 * y) (k + 1) = dg y k := by
    intro x y k hx
    unfold dg
    rw [Nat.pow_succ, Nat.mul_comm (65536 ^ k), ← Nat.div_div_eq_div_mul, show (x + 65536 * y) / 65536 = y by omega]
  have z : ∀ x y, x < 65536 → dg (x + 65536 * y) 0 = x := by intro x y hx; unfold dg; simp; omega
  refine ⟨z _ _ h0, ?_, ?_, ?_, ?_, ?_, ?_, ?_⟩
  · rw [s _ _ _ h0, z _ _ h1]
  · rw [s _ _ _ h0, s _ _ _ h1, z _ _ h2]
  · rw [s _ _ _ h0, s _ _ _ h1, s _ _ _ h2, z _ _ h3]
  · rw [s _ _ _ h0, s _ _ _ h1, s _ _ _ h2, s _ _ _ h3, z _ _ h4]
  · rw [s _ _ _ h0, s _ _ _ h1, s _ _ _ h2, s _ _ _ h3, s _ _ _ h4, z _ _ h5]
  · rw [s _ _ _ h0, s _ _ _ h1, s _ _ _ h2, s _ _ _ h3, s _ _ _ h4, s _ _ _ h5, z _ _ h6]
  · rw [s _ _ _ h0, s _ _ _ h1, s _ _ _ h2, s _ _ _ h3, s _ _ _ h4, s _ _ _ h5, s _ _ _ h6]; unfold dg; simp; omega
/-- one bit more -/
theorem div_step (M q n l b : Nat) (h : M = q * n + l) (hl : l < n) : 2 * M + b = (if n ≤ 2 * l + b then (2 * q + 1) * n + (2 * l + b - n) else 2 * q * n + (2 * l + b)) := by
  subst h
  rw [Nat.mul_add, ← Nat.mul_assoc]
  split
  · rw [Nat.add_mul, Nat.one_mul]; omega
  · omega
theorem half_step (N i : Nat) : N / 2 ^ i = 2 * (N / 2 ^ (i + 1)) + N / 2 ^ i % 2 := by
  rw [Nat.pow_succ, ← Nat.div_div_eq_div_mul]; omega
theorem div_end (N n q l : Nat) (h : N = q * n + l) (hl : l < n) : q = N / n ∧ l = N % n := by
  subst h
  have hn : 0 < n := by omega
  rw [Nat.mul_comm q n, Nat.mul_add_div hn, Nat.mul_add_mod, Nat.div_eq_of_lt hl, Nat.mod_eq_of_lt hl]
  simp
def V9 (S : Nat → Nat) : Nat := S 0 + 65536 * (S 1 + 65536 * (S 2 + 65536 * (S 3 + 65536 * (S 4 + 65536 * (S 5 + 65536 * (S 6 + 65536 * (S 7 + 65536 * S 8)))))))
def up9 (S : Nat → Nat) (k d : Nat) : Nat → Nat := fun m => if m = k then S m + d else S m
theorem V9_up (S : Nat → Nat) (k d : Nat) (hk : k < 9) : V9 (up9 S k d) = V9 S + d * 65536 ^ k := by
  have h : k = 0 ∨ k = 1 ∨ k = 2 ∨ k = 3 ∨ k = 4 ∨ k = 5 ∨ k = 6 ∨ k = 7 ∨ k = 8 := by omega
  unfold V9 up9
  generalize S 0 = s0, S 1 = s1, S 2 = s2, S 3 = s3, S 4 = s4, S 5 = s5, S 6 = s6, S 7 = s7, S 8 = s8
  rcases h with rfl | rfl | rfl | rfl | rfl | rfl | rfl | rfl | rfl <;>
    simp only [Nat.mul_add, ← Nat.mul_assoc, Nat.reduceMul, Nat.reducePow, Nat.reduceEqDiff, if_true, if_false, Nat.mul_comm d, reduceCtorEq, Nat.one_mul, Nat.add_assoc] <;> omega
def cy (S : Nat → Nat) : Nat → Nat
  | 0 => 0
  | k + 1 => (S k + cy S k) / 65536
theorem dg_cy (S : Nat → Nat) : ∀ k, k < 8 → dg (V9 S) k = (S k + cy S k) % 65536 := by
  have s : ∀ x y k, dg (x + 65536 * y) (k + 1) = dg (x / 65536 + y) k := by
    intro x y k
    unfold dg
    rw [Nat.pow_succ, Nat.mul_comm (65536 ^ k), ← Nat.div_div_eq_div_mul, show (x + 65536 * y) / 65536 = x / 65536 + y by omega]
  have z : ∀ x y, dg (x + 65536 * y) 0 = x % 65536 := by intro x y; unfold dg; simp
  have a : ∀ c x y, c + (x + 65536 * y) = (x + c) + 65536 * y := by intros; omega
  intro k hk
  have h : k = 0 ∨ k = 1 ∨ k = 2 ∨ k = 3 ∨ k = 4 ∨ k = 5 ∨ k = 6 ∨ k = 7 := by omega
  unfold V9
  rcases h with rfl | rfl | rfl | rfl | rfl | rfl | rfl | rfl <;> simp only [s, z, a, cy, Nat.add_zero]
theorem cy_lt (S : Nat → Nat) (h : ∀ k, k < 9 → S k ≤ 1048576) : ∀ k, k ≤ 9 → cy S k ≤ 17 := by
  intro k
  induction k with
  | zero => intro _; exact Nat.zero_le _
  | succ n ih => intro hn; have := h n (by omega); have := ih (by omega); simp only [cy]; omega
/-- the sum of all products so far -/
def prt9 (a b i j : Nat) : Nat := a % 65536 ^ i * b + dg a i * 65536 ^ i * (b % 65536 ^ j)
theorem prt_j (a b i j : Nat) : prt9 a b i (j + 1) = prt9 a b i j + dg a i * dg b j * 65536 ^ (i + j) := by
  unfold prt9
  rw [Nat.mod_pow_succ, Nat.mul_add, ← Nat.add_assoc, Nat.pow_add]
  congr 1
  show dg a i * 65536 ^ i * (65536 ^ j * dg b j) = _
  simp only [Nat.mul_assoc, Nat.mul_comm, Nat.mul_left_comm]
theorem prt_i (a b i : Nat) (hb : b < 65536 ^ 4) : prt9 a b i 4 = prt9 a b (i + 1) 0 := by
  unfold prt9
  rw [Nat.mod_eq_of_lt hb, Nat.mod_pow_succ, Nat.pow_zero, Nat.mod_one, Nat.mul_zero, Nat.add_zero, Nat.add_mul]
  congr 1
  show _ = 65536 ^ i * dg a i * b
  rw [Nat.mul_comm (dg a i)]
theorem prt_0 (a b : Nat) : prt9 a b 0 0 = 0 := by unfold prt9; simp [Nat.mod_one]
theorem prt_4 (a b : Nat) (ha : a < 65536 ^ 4) : prt9 a b 4 0 = a * b := by unfold prt9; simp [Nat.mod_one, Nat.mod_eq_of_lt ha]
theorem two_up (S : Nat → Nat) (a b i j p : Nat) (hS : V9 S = prt9 a b i j) (hi : i < 4) (hj : j < 4) (hp : p = dg a i * dg b j) : V9 (up9 (up9 S (i + j) (p % 65536)) (i + j + 1) (p / 65536)) = prt9 a b i (j + 1) := by
  rw [V9_up _ _ _ (by omega), V9_up _ _ _ (by omega), hS, prt_j, ← hp, Nat.pow_succ, Nat.add_assoc]
  congr 1
  rw [Nat.mul_comm (65536 ^ (i + j)), ← Nat.mul_assoc, ← Nat.add_mul]
  congr 1
  omega

end Go.Proofs.YtfpbibfoipbahaaDoor.M
