import Derived.Lib.ItoaNum
import Derived.Laws.Strings
import Derived.Test.YtbgjeelbbmcpeaaDoorWWords
set_option linter.unusedVariables false
set_option linter.unusedSimpArgs false
namespace Go.Proofs.YtbgjeelbbmcpeaaDoor.M
/-! A date's text, in plain lists. -/
def dgt (n : Int) : UInt8 := UInt8.ofNat (48 + n.toNat)
def twoD (n : Int) : List UInt8 := [dgt (n / 10), dgt (n % 10)]
def fourD (n : Int) : List UInt8 := [dgt (n / 1000), dgt (n / 100 % 10), dgt (n / 10 % 10), dgt (n % 10)]
def textOf (y m d : Int) : List UInt8 := fourD y ++ (45 :: (twoD m ++ (45 :: twoD d)))
theorem dgt_nat {i : Int} (h0 : 0 ≤ i) (h1 : i ≤ 9) : (dgt i).toNat = 48 + i.toNat := by
  unfold dgt
  rw [UInt8.toNat_ofNat']
  omega
theorem dgt_lt {i j : Int} (hi : 0 ≤ i ∧ i ≤ 9) (hj : 0 ≤ j ∧ j ≤ 9) : dgt i < dgt j ↔ i < j := by
  rw [UInt8.lt_iff_toNat_lt, dgt_nat hi.1 hi.2, dgt_nat hj.1 hj.2]; omega
theorem dgt_inj {i j : Int} (hi : 0 ≤ i ∧ i ≤ 9) (hj : 0 ≤ j ∧ j ≤ 9) : dgt i = dgt j ↔ i = j := by
  rw [← UInt8.toNat_inj, dgt_nat hi.1 hi.2, dgt_nat hj.1 hj.2]; omega
theorem itoa_1 {n : Int} (h0 : 0 ≤ n) (h1 : n < 10) : Go.Lib.itoa n = [dgt n] := by
  unfold Go.Lib.itoa
  rw [if_neg (by omega), Go.Lib.decDigits, dif_pos (by omega)]; rfl
theorem itoa_2 {n : Int} (h0 : 10 ≤ n) (h1 : n < 100) : Go.Lib.itoa n = twoD n := by
  unfold Go.Lib.itoa twoD dgt
  rw [if_neg (by omega), Go.Lib.decDigits, dif_neg (by omega), Go.Lib.decDigits, dif_pos (by omega)]
  rw [show n.toNat / 10 = (n / 10).toNat by omega, show n.toNat % 10 = (n % 10).toNat by omega]; rfl
theorem itoa_3 {n : Int} (h0 : 100 ≤ n) (h1 : n < 1000) : Go.Lib.itoa n = [dgt (n / 100), dgt (n / 10 % 10), dgt (n % 10)] := by
  unfold Go.Lib.itoa dgt
  rw [if_neg (by omega), Go.Lib.decDigits, dif_neg (by omega), Go.Lib.decDigits, dif_neg (by omega), Go.Lib.decDigits, dif_pos (by omega)]
  rw [show n.toNat / 10 / 10 = (n / 100).toNat by omega, show n.toNat / 10 % 10 = (n / 10 % 10).toNat by omega, show n.toNat % 10 = (n % 10).toNat by omega]; rfl
theorem itoa_4 {n : Int} (h0 : 1000 ≤ n) (h1 : n < 10000) : Go.Lib.itoa n = fourD n := by
  unfold Go.Lib.itoa fourD dgt
  rw [if_neg (by omega), Go.Lib.decDigits, dif_neg (by omega), Go.Lib.decDigits, dif_neg (by omega), Go.Lib.decDigits, dif_neg (by omega), Go.Lib.decDigits, dif_pos (by omega)]
  rw [show n.toNat / 10 / 10 / 10 = (n / 1000).toNat by omega, show n.toNat / 10 / 10 % 10 = (n / 100 % 10).toNat by omega, show n.toNat / 10 % 10 = (n / 10 % 10).toNat by omega, show n.toNat % 10 = (n % 10).toNat by omega]; rfl
theorem bl_cons (a b : UInt8) (l r : List UInt8) : Op.bytesLess (a :: l) (b :: r) = (decide (a < b) || (a == b && Op.bytesLess l r)) := by
  simp only [Op.bytesLess]
theorem two_less {m m' : Int} (h : 0 ≤ m ∧ m ≤ 99) (h' : 0 ≤ m' ∧ m' ≤ 99) (l r : List UInt8) : Op.bytesLess (twoD m ++ l) (twoD m' ++ r) = if m = m' then Op.bytesLess l r else decide (m < m') := by
  unfold twoD
  simp only [List.cons_append, List.nil_append, bl_cons]
  rw [Bool.eq_iff_iff]
  have a1 := dgt_lt (i := m / 10) (j := m' / 10) (by omega) (by omega)
  have a2 := dgt_inj (i := m / 10) (j := m' / 10) (by omega) (by omega)
  have a3 := dgt_lt (i := m % 10) (j := m' % 10) (by omega) (by omega)
  have a4 := dgt_inj (i := m % 10) (j := m' % 10) (by omega) (by omega)
  by_cases c : m = m'
  · subst c
    simp
  · rw [if_neg c]
    simp only [Bool.or_eq_true, Bool.and_eq_true, decide_eq_true_eq, beq_iff_eq, a1, a2, a3, a4]
    constructor
    · rintro (q | ⟨q1, q | ⟨q2, _⟩⟩) <;> omega
    · intro q
      by_cases c1 : m / 10 < m' / 10
      · exact .inl c1
      · exact .inr ⟨by omega, .inl (by omega)⟩
theorem four_less {m m' : Int} (h : 0 ≤ m ∧ m ≤ 9999) (h' : 0 ≤ m' ∧ m' ≤ 9999) (l r : List UInt8) : Op.bytesLess (fourD m ++ l) (fourD m' ++ r) = if m = m' then Op.bytesLess l r else decide (m < m') := by
  have e : ∀ n : Int, 0 ≤ n ∧ n ≤ 9999 → ∀ t, fourD n ++ t = twoD (n / 100) ++ (twoD (n % 100) ++ t) := fun n hn t => by
    unfold fourD twoD
    rw [show n / 100 / 10 = n / 1000 by omega, show n % 100 / 10 = n / 10 % 10 by omega, show n % 100 % 10 = n % 10 by omega]; rfl
  rw [e m h, e m' h', two_less (by omega) (by omega), two_less (by omega) (by omega)]
  by_cases c : m = m'
  · subst c; simp
  · rw [if_neg c]
    by_cases c1 : m / 100 = m' / 100
    · rw [if_pos c1, if_neg (by omega)]
      exact decide_eq_decide.2 (by omega)
    · rw [if_neg c1]
      exact decide_eq_decide.2 (by omega)
theorem text_less {y m d y' m' d' : Int} (hy : 0 ≤ y ∧ y ≤ 9999) (hy' : 0 ≤ y' ∧ y' ≤ 9999) (hm : 0 ≤ m ∧ m ≤ 99) (hm' : 0 ≤ m' ∧ m' ≤ 99) (hd : 0 ≤ d ∧ d ≤ 99) (hd' : 0 ≤ d' ∧ d' ≤ 99) :
    Op.bytesLess (textOf y m d) (textOf y' m' d') = decide (y < y' ∨ y = y' ∧ (m < m' ∨ m = m' ∧ d < d')) := by
  have h2 := two_less hd hd' [] []
  rw [List.append_nil, List.append_nil] at h2
  unfold textOf
  rw [four_less hy hy', bl_cons, two_less hm hm', bl_cons, h2]
  by_cases c1 : y = y'
  · subst c1
    by_cases c2 : m = m'
    · subst c2
      by_cases c3 : d = d'
      · subst c3; simp [Op.bytesLess]
      · simp [c3]
    · simp [c2]
  · simp [c1]
theorem two_length (n : Int) : (twoD n).length = 2 := rfl
theorem four_length (n : Int) : (fourD n).length = 4 := rfl
theorem text_length (y m d : Int) : (textOf y m d).length = 10 := rfl
theorem mk_append (a b : List UInt8) : (⟨a.toArray⟩ : ByteArray) ++ ⟨b.toArray⟩ = ⟨(a ++ b).toArray⟩ := by
  apply ByteArray.ext
  simp
theorem mk_size (a : List UInt8) : (⟨a.toArray⟩ : ByteArray).size = a.length := by simp [ByteArray.size]

end Go.Proofs.YtbgjeelbbmcpeaaDoor.M
