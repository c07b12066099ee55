import Derived.Lib.ItoaNum
import Derived.Lib.AtoiAll
import Derived.Laws.Strings
import Derived.Test.YthokfepglahgpaaDoorWWords
set_option linter.unusedVariables false
set_option linter.unusedSimpArgs false
namespace Go.Proofs.YthokfepglahgpaaDoor.M
/-! A date's text, in plain lists. -/
def dgt (n : Int) : UInt8 := UInt8.ofNat (48 + n.toNat)
def twoD (n : Int) : List UInt8 := [dgt (n / 10), dgt (n % 10)]
def fourD (n : Int) : List UInt8 := [dgt (n / 1000), dgt (n / 100 % 10), dgt (n / 10 % 10), dgt (n % 10)]
def textOf (y m d : Int) : List UInt8 := fourD y ++ (45 :: (twoD m ++ (45 :: twoD d)))
theorem dgt_nat {i : Int} (h0 : 0 ≤ i) (h1 : i ≤ 9) : (dgt i).toNat = 48 + i.toNat := by
  unfold dgt
  rw [UInt8.toNat_ofNat']
  omega
theorem dgt_lt {i j : Int} (hi : 0 ≤ i ∧ i ≤ 9) (hj : 0 ≤ j ∧ j ≤ 9) : dgt i < dgt j ↔ i < j := by
  rw [UInt8.lt_iff_toNat_lt, dgt_nat hi.1 hi.2, dgt_nat hj.1 hj.2]; omega
theorem dgt_inj {i j : Int} (hi : 0 ≤ i ∧ i ≤ 9) (hj : 0 ≤ j ∧ j ≤ 9) : dgt i = dgt j ↔ i = j := by
  rw [← UInt8.toNat_inj, dgt_nat hi.1 hi.2, dgt_nat hj.1 hj.2]; omega
theorem itoa_1 {n : Int} (h0 : 0 ≤ n) (h1 : n < 10) : Go.Lib.itoa n = [dgt n] := by
  unfold Go.Lib.itoa
  rw [if_neg (by omega), Go.Lib.decDigits, dif_pos (by omega)]; rfl
theorem itoa_2 {n : Int} (h0 : 10 ≤ n) (h1 : n < 100) : Go.Lib.itoa n = twoD n := by
  unfold Go.Lib.itoa twoD dgt
  rw [if_neg (by omega), Go.Lib.decDigits, dif_neg (by omega), Go.Lib.decDigits, dif_pos (by omega)]
  rw [show n.toNat / 10 = (n / 10).toNat by omega, show n.toNat % 10 = (n % 10).toNat by omega]; rfl
theorem itoa_3 {n : Int} (h0 : 100 ≤ n) (h1 : n < 1000) : Go.Lib.itoa n = [dgt (n / 100), dgt (n / 10 % 10), dgt (n % 10)] := by
  unfold Go.Lib.itoa dgt
  rw [if_neg (by omega), Go.Lib.decDigits, dif_neg (by omega), Go.Lib.decDigits, dif_neg (by omega), Go.Lib.decDigits, dif_pos (by omega)]
  rw [show n.toNat / 10 / 10 = (n / 100).toNat by omega, show n.toNat / 10 % 10 = (n / 10 % 10).toNat by omega, show n.toNat % 10 = (n % 10).toNat by omega]; rfl
theorem itoa_4 {n : Int} (h0 : 1000 ≤ n) (h1 : n < 10000) : Go.Lib.itoa n = fourD n := by
  unfold Go.Lib.itoa fourD dgt
  rw [if_neg (by omega), Go.Lib.decDigits, dif_neg (by omega), Go.Lib.decDigits, dif_neg (by omega), Go.Lib.decDigits, dif_neg (by omega), Go.Lib.decDigits, dif_pos (by omega)]
  rw [show n.toNat / 10 / 10 / 10 = (n / 1000).toNat by omega, show n.toNat / 10 / 10 % 10 = (n / 100 % 10).toNat by omega, show n.toNat / 10 % 10 = (n / 10 % 10).toNat by omega, show n.toNat % 10 = (n % 10).toNat by omega]; rfl
theorem bl_cons (a b : UInt8) (l r : List UInt8) : Op.bytesLess (a :: l) (b :: r) = (decide (a < b) || (a == b && Op.bytesLess l r)) := by
  simp only [Op.bytesLess]
theorem two_less {m m' : Int} (h : 0 ≤ m ∧ m ≤ 99) (h' : 0 ≤ m' ∧ m' ≤ 99) (l r : List UInt8) : Op.bytesLess (twoD m ++ l) (twoD m' ++ r) = if m = m' then Op.bytesLess l r else decide (m < m') := by
  unfold twoD
  simp only [List.cons_append, List.nil_append, bl_cons]
  rw [Bool.eq_iff_iff]
  have a1 := dgt_lt (i := m / 10) (j := m' / 10) (by omega) (by omega)
  have a2 := dgt_inj (i := m / 10) (j := m' / 10) (by omega) (by omega)
  have a3 := dgt_lt (i := m % 10) (j := m' % 10) (by omega) (by omega)
  have a4 := dgt_inj (i := m % 10) (j := m' % 10) (by omega) (by omega)
  by_cases c : m = m'
  · subst c
    simp
  · rw [if_neg c]
    simp only [Bool.or_eq_true, Bool.and_eq_true, decide_eq_true_eq, beq_iff_eq, a1, a2, a3, a4]
    constructor
    · rintro (q | ⟨q1, q | ⟨q2, _⟩⟩) <;> omega
    · intro q
      by_cases c1 : m / 10 < m' / 10
      · exact .inl c1
      · exact .inr ⟨by omega, .inl (by omega)⟩
theorem four_less {m m' : Int} (h : 0 ≤ m ∧ m ≤ 9999) (h' : 0 ≤ m' ∧ m' ≤ 9999) (l r : List UInt8) : Op.bytesLess (fourD m ++ l) (fourD m' ++ r) = if m = m' then Op.bytesLess l r else decide (m < m') := by
  have e : ∀ n : Int, 0 ≤ n ∧ n ≤ 9999 → ∀ t, fourD n ++ t = twoD (n / 100) ++ (twoD (n % 100) ++ t) := fun n hn t => by
    unfold fourD twoD
    rw [show n / 100 / 10 = n / 1000 by omega, show n % 100 / 10 = n / 10 % 10 by omega, show n % 100 % 10 = n % 10 by omega]; rfl
  rw [e m h, e m' h', two_less (by omega) (by omega), two_less (by omega) (by omega)]
  by_cases c : m = m'
  · subst c; simp
  · rw [if_neg c]
    by_cases c1 : m / 100 = m' / 100
    · rw [if_pos c1, if_neg (by omega)]
      exact decide_eq_decide.2 (by omega)
    · rw [if_neg c1]
      exact decide_eq_decide.2 (by omega)
theorem text_less {y m d y' m' d' : Int} (hy : 0 ≤ y ∧ y ≤ 9999) (hy' : 0 ≤ y' ∧ y' ≤ 9999) (hm : 0 ≤ m ∧ m ≤ 99) (hm' : 0 ≤ m' ∧ m' ≤ 99) (hd : 0 ≤ d ∧ d ≤ 99) (hd' : 0 ≤ d' ∧ d' ≤ 99) :
    Op.bytesLess (textOf y m d) (textOf y' m' d') = decide (y < y' ∨ y = y' ∧ (m < m' ∨ m = m' ∧ d < d')) := by
  have h2 := two_less hd hd' [] []
  rw [List.append_nil, List.append_nil] at h2
  unfold textOf
  rw [four_less hy hy', bl_cons, two_less hm hm', bl_cons, h2]
  by_cases c1 : y = y'
  · subst c1
    by_cases c2 : m = m'
    · subst c2
      by_cases c3 : d = d'
      · subst c3; simp [Op.bytesLess]
      · simp [c3]
    · simp [c2]
  · simp [c1]
theorem two_length (n : Int) : (twoD n).length = 2 := rfl
theorem four_length (n : Int) : (fourD n).length = 4 := rfl
theorem text_length (y m d : Int) : (textOf y m d).length = 10 := rfl
theorem mk_append (a b : List UInt8) : (⟨a.toArray⟩ : ByteArray) ++ ⟨b.toArray⟩ = ⟨(a ++ b).toArray⟩ := by
  apply ByteArray.ext
  simp
theorem mk_size (a : List UInt8) : (⟨a.toArray⟩ : ByteArray).size = a.length := by simp [ByteArray.size]
theorem pu_step (acc : Nat) (i : Int) (hi : 0 ≤ i ∧ i ≤ 9) (ha : acc ≤ 100000000000) (r : List UInt8) : Go.Lib.parseUint10 acc (dgt i :: r) = Go.Lib.parseUint10 (acc * 10 + i.toNat) r := by
  simp only [Go.Lib.parseUint10]
  rw [dgt_nat hi.1 hi.2, if_pos (by omega), if_neg (by omega), if_neg (by omega), show acc * 10 + (48 + i.toNat - 48) = acc * 10 + i.toNat by omega]
theorem atoi_cons (i : Int) (hi : 0 ≤ i ∧ i ≤ 9) (r : List UInt8) (u : Nat) (h : Go.Lib.parseUint10 i.toNat r = .ok u) (hu : u ≤ 1000000) : Go.Lib.atoiAll (dgt i :: r) = .ok (u : Int) := by
  have hd := dgt_nat hi.1 hi.2
  have e : Go.Lib.parseMag (dgt i :: r) = .ok u := by
    unfold Go.Lib.parseMag
    rw [if_neg (List.cons_ne_nil _ _), pu_step 0 i hi (by omega), show 0 * 10 + i.toNat = i.toNat by omega, h]
  simp only [Go.Lib.atoiAll]
  rw [hd, if_neg (show ¬ (48 + i.toNat = 43 ∨ 48 + i.toNat = 45) by omega), e]
  simp only []
  rw [if_neg (by omega), if_neg (by omega), if_neg (by omega)]
theorem atoi_two {n : Int} (h0 : 0 ≤ n) (h1 : n ≤ 99) : Go.Lib.atoiAll (twoD n) = .ok n := by
  unfold twoD
  rw [atoi_cons (n / 10) (by omega) [dgt (n % 10)] n.toNat (by
    rw [pu_step _ _ (by omega) (by omega)]
    simp only [Go.Lib.parseUint10]
    congr 1
    omega) (by omega)]
  congr 1
  omega
theorem atoi_four {n : Int} (h0 : 0 ≤ n) (h1 : n ≤ 9999) : Go.Lib.atoiAll (fourD n) = .ok n := by
  unfold fourD
  rw [atoi_cons (n / 1000) (by omega) [dgt (n / 100 % 10), dgt (n / 10 % 10), dgt (n % 10)] n.toNat (by
    rw [pu_step _ _ (by omega) (by omega), pu_step _ _ (by omega) (by omega), pu_step _ _ (by omega) (by omega)]
    simp only [Go.Lib.parseUint10]
    congr 1
    omega) (by omega)]
  congr 1
  omega
theorem ex04 (y m d : Int) : ((⟨(textOf y m d).toArray⟩ : ByteArray).extract 0 4).data.toList = fourD y := by simp [textOf, fourD, twoD]
theorem ex57 (y m d : Int) : ((⟨(textOf y m d).toArray⟩ : ByteArray).extract 5 7).data.toList = twoD m := by simp [textOf, fourD, twoD]
theorem ex810 (y m d : Int) : ((⟨(textOf y m d).toArray⟩ : ByteArray).extract 8 10).data.toList = twoD d := by simp [textOf, fourD, twoD]
theorem toList_data (s : ByteArray) : s.toList = s.data.toList := by
  obtain ⟨⟨l⟩⟩ := s
  exact ByteArray.toList_mk l
theorem twoD_inj {m n : Int} (hm : 0 ≤ m ∧ m ≤ 99) (hn : 0 ≤ n ∧ n ≤ 99) (h : twoD m = twoD n) : m = n := by
  unfold twoD at h
  simp only [List.cons.injEq, and_true] at h
  have a := (dgt_inj (i := m / 10) (j := n / 10) (by omega) (by omega)).1 h.1
  have b := (dgt_inj (i := m % 10) (j := n % 10) (by omega) (by omega)).1 h.2
  omega
theorem fourD_inj {m n : Int} (hm : 0 ≤ m ∧ m ≤ 9999) (hn : 0 ≤ n ∧ n ≤ 9999) (h : fourD m = fourD n) : m = n := by
  unfold fourD at h
  simp only [List.cons.injEq, and_true] at h
  have a := (dgt_inj (i := m / 1000) (j := n / 1000) (by omega) (by omega)).1 h.1
  have b := (dgt_inj (i := m / 100 % 10) (j := n / 100 % 10) (by omega) (by omega)).1 h.2.1
  have c := (dgt_inj (i := m / 10 % 10) (j := n / 10 % 10) (by omega) (by omega)).1 h.2.2.1
  have d := (dgt_inj (i := m % 10) (j := n % 10) (by omega) (by omega)).1 h.2.2.2
  omega
theorem text_inj {y m d y' m' d' : Int} (hy : 0 ≤ y ∧ y ≤ 9999) (hm : 0 ≤ m ∧ m ≤ 99) (hd : 0 ≤ d ∧ d ≤ 99) (hy' : 0 ≤ y' ∧ y' ≤ 9999) (hm' : 0 ≤ m' ∧ m' ≤ 99) (hd' : 0 ≤ d' ∧ d' ≤ 99) (h : textOf y m d = textOf y' m' d') : y = y' ∧ m = m' ∧ d = d' := by
  unfold textOf at h
  obtain ⟨h1, h2⟩ := List.append_inj h (by rw [four_length, four_length])
  simp only [List.cons.injEq, true_and] at h2
  obtain ⟨h3, h4⟩ := List.append_inj h2 (by rw [two_length, two_length])
  simp only [List.cons.injEq, true_and] at h4
  exact ⟨fourD_inj hy hy' h1, twoD_inj hm hm' h3, twoD_inj hd hd' h4⟩

end Go.Proofs.YthokfepglahgpaaDoor.M
