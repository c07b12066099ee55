import Derived.Test.YtldicnmpegkicaaDoorWWords
set_option linter.unusedVariables false
set_option linter.unusedSimpArgs false
namespace Go.Proofs.YtldicnmpegkicaaDoor.M
/-! What is to be paid each month, in plain numbers. -/
def itr (P x : Int) : Int := (x * (P * 30) * 2 + 360000000) / 720000000
theorem itr_zero (P : Int) : itr P 0 = 0 := by unfold itr; rw [Int.zero_mul, Int.zero_mul]; decide
theorem itr_mono {P x y : Int} (hP : 0 ≤ P) (h : x ≤ y) : itr P x ≤ itr P y := by
  unfold itr
  refine Int.ediv_le_ediv (by decide) ?_
  have := Int.mul_le_mul_of_nonneg_right h (show 0 ≤ P * 30 by omega)
  omega
theorem itr_nonneg {P x : Int} (hP : 0 ≤ P) (h : 0 ≤ x) : 0 ≤ itr P x := by
  have := itr_mono hP h
  rwa [itr_zero] at this
theorem itr_bd {P x : Int} (hP : 0 ≤ P ∧ P ≤ 1000000) (h : 0 ≤ x ∧ x ≤ 1000000000000) : 0 ≤ itr P x ∧ itr P x ≤ 83333333334 ∧ 0 ≤ x * (P * 30) ∧ x * (P * 30) ≤ 30000000000000000000 := by
  have a0 : 0 ≤ x * (P * 30) := Int.mul_nonneg h.1 (by omega)
  have a1 : x * (P * 30) ≤ 1000000000000 * 30000000 := Int.mul_le_mul h.2 (by omega) (by omega) (by omega)
  refine ⟨itr_nonneg hP.1 h.1, ?_, a0, by omega⟩
  unfold itr
  generalize x * (P * 30) = T at *
  omega
theorem round_num (T : Int) (hT : 0 ≤ T) : (if T % 360000000 < 360000000 - T % 360000000 then T / 360000000 else T / 360000000 + 1) = (T * 2 + 360000000) / 720000000 := by
  split <;> omega
def stp (P pay x : Int) : Int := if pay > x + itr P x then 0 else x + itr P x - pay
def its (P pay : Int) : Nat → Int → Int
  | 0, x => x
  | n + 1, x => its P pay n (stp P pay x)
theorem stp_nonneg (P pay x : Int) : 0 ≤ stp P pay x := by unfold stp; split <;> omega
theorem stp_mono {P pay x y : Int} (hP : 0 ≤ P) (h : x ≤ y) : stp P pay x ≤ stp P pay y := by
  have := itr_mono hP h
  unfold stp; (repeat' split) <;> omega
theorem stp_anti {P pay pay' x : Int} (h : pay ≤ pay') : stp P pay' x ≤ stp P pay x := by
  unfold stp; (repeat' split) <;> omega
theorem its_nonneg (P pay : Int) : ∀ (n : Nat) (x : Int), 0 ≤ x → 0 ≤ its P pay n x
  | 0, _, h => h
  | n + 1, x, _ => its_nonneg P pay n _ (stp_nonneg P pay x)
theorem its_mono {P pay : Int} (hP : 0 ≤ P) : ∀ (n : Nat) {x y : Int}, x ≤ y → its P pay n x ≤ its P pay n y
  | 0, _, _, h => h
  | n + 1, _, _, h => its_mono hP n (stp_mono hP h)
theorem its_anti {P pay pay' : Int} (hP : 0 ≤ P) (hp : pay ≤ pay') : ∀ (n : Nat) (x : Int), its P pay' n x ≤ its P pay n x
  | 0, _ => Int.le_refl _
  | n + 1, x => Int.le_trans (its_anti hP hp n _) (its_mono hP n (stp_anti hp))
theorem stp_zero {P pay : Int} (h : 1 ≤ pay) : stp P pay 0 = 0 := by unfold stp; rw [itr_zero, if_pos (by omega)]
theorem its_zero {P pay : Int} (h : 1 ≤ pay) : ∀ n : Nat, its P pay n 0 = 0
  | 0 => rfl
  | n + 1 => by show its P pay n (stp P pay 0) = 0; rw [stp_zero h]; exact its_zero h n
theorem its_more {P pay : Int} (h : 1 ≤ pay) : ∀ (n m : Nat) (x : Int), its P pay n x = 0 → n ≤ m → its P pay m x = 0
  | 0, m, x, hx, _ => by
    have : x = 0 := hx
    rw [this]; exact its_zero h m
  | n + 1, 0, _, _, hm => absurd hm (by omega)
  | n + 1, m + 1, x, hx, hm => its_more h n m (stp P pay x) hx (by omega)
theorem its_stuck {P pay x : Int} (hP : 0 ≤ P) (h : x ≤ stp P pay x) : ∀ n : Nat, x ≤ its P pay n x
  | 0 => Int.le_refl _
  | n + 1 => Int.le_trans (its_stuck hP h n) (its_mono hP n h)
theorem its_high {P x : Int} (hP : 0 ≤ P) (hx : 0 ≤ x) (n : Nat) (hn : 1 ≤ n) (h1 : 1 ≤ x + itr P x) : its P (x + itr P x) n x = 0 := by
  obtain ⟨m, rfl⟩ : ∃ m, n = m + 1 := ⟨n - 1, by omega⟩
  have e : stp P (x + itr P x) x = 0 := by unfold stp; rw [if_neg (by omega)]; omega
  show its P (x + itr P x) m (stp P (x + itr P x) x) = 0
  rw [e]; exact its_zero h1 m

end Go.Proofs.YtldicnmpegkicaaDoor.M
