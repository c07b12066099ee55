import Derived.Test.YtldicnmpegkicaaDoorWWords
set_option linter.unusedVariables false
set_option linter.unusedSimpArgs false
namespace Go.Proofs.YtldicnmpegkicaaDoor.M
/-! The calendar, in plain numbers. -/
def isLeap (y : Int) : Bool := decide (y % 4 = 0 ∧ (y % 100 ≠ 0 ∨ y % 400 = 0))
def lp (y : Int) : Int := if isLeap y = true then 1 else 0
def mlen (y m : Int) : Int := if m = 4 ∨ m = 6 ∨ m = 9 ∨ m = 11 then 30 else if m = 2 then 28 + lp y else 31
def dby (y : Int) : Int := 365 * (y - 1) + (y - 1) / 4 - (y - 1) / 100 + (y - 1) / 400
def cum (y m : Int) : Int :=
  if m = 1 then 0 else if m = 2 then 31 else if m = 3 then 59 + lp y else if m = 4 then 90 + lp y else if m = 5 then 120 + lp y else if m = 6 then 151 + lp y
  else if m = 7 then 181 + lp y else if m = 8 then 212 + lp y else if m = 9 then 243 + lp y else if m = 10 then 273 + lp y else if m = 11 then 304 + lp y else if m = 12 then 334 + lp y else 365 + lp y
theorem lp_01 (y : Int) : 0 ≤ lp y ∧ lp y ≤ 1 := by unfold lp; split <;> omega
theorem mlen_bd (y m : Int) : 28 ≤ mlen y m ∧ mlen y m ≤ 31 := by
  have := lp_01 y
  unfold mlen; (repeat' split) <;> omega
theorem cum_succ (y m : Int) (h1 : 1 ≤ m) (h2 : m ≤ 12) : cum y (m + 1) = cum y m + mlen y m := by
  have : m = 1 ∨ m = 2 ∨ m = 3 ∨ m = 4 ∨ m = 5 ∨ m = 6 ∨ m = 7 ∨ m = 8 ∨ m = 9 ∨ m = 10 ∨ m = 11 ∨ m = 12 := by omega
  rcases this with rfl | rfl | rfl | rfl | rfl | rfl | rfl | rfl | rfl | rfl | rfl | rfl <;> simp [cum, mlen] <;> omega
theorem cum_one (y : Int) : cum y 1 = 0 := rfl
theorem cum_end (y : Int) : cum y 13 = 365 + lp y := rfl
theorem lp_eq (y : Int) (h : 1 ≤ y) : lp y = (y / 4 - (y - 1) / 4) - (y / 100 - (y - 1) / 100) + (y / 400 - (y - 1) / 400) := by
  unfold lp isLeap
  by_cases h4 : y % 4 = 0
  · by_cases h100 : y % 100 = 0
    · by_cases h400 : y % 400 = 0
      · rw [if_pos (decide_eq_true ⟨h4, .inr h400⟩)]; omega
      · rw [if_neg (by simp; omega)]; omega
    · rw [if_pos (decide_eq_true ⟨h4, .inl h100⟩)]; omega
  · rw [if_neg (by simp; omega)]; omega
theorem dby_succ (y : Int) (h : 1 ≤ y) : dby (y + 1) = dby y + 365 + lp y := by
  rw [lp_eq y h]
  unfold dby
  rw [show y + 1 - 1 = y by omega]
  omega
theorem dby_lt (y : Int) (h : 1 ≤ y) : dby y + 365 ≤ dby (y + 1) := by have := dby_succ y h; have := lp_01 y; omega
theorem dby_mono {a b : Int} (h0 : 1 ≤ a) (h : a ≤ b) : dby a ≤ dby b := by unfold dby; omega
theorem dby_strict {a b : Int} (h0 : 1 ≤ a) (h : a < b) : dby a + 365 ≤ dby b := by have := dby_lt a h0; have := dby_mono (a := a + 1) (b := b) (by omega) (by omega); omega
theorem dby_bd (y : Int) (h0 : 1 ≤ y) (h : y ≤ 10001) : 0 ≤ dby y ∧ dby y ≤ 3652425 := by unfold dby; omega
theorem dby_top : dby 10000 = 3652059 := by decide
theorem cum_mono (y m : Int) (h1 : 1 ≤ m) : ∀ d : Nat, m + d ≤ 13 → cum y m ≤ cum y (m + d) := by
  intro d
  induction d with
  | zero => intro _; simp
  | succ d ih =>
    intro h
    have h2 := ih (by omega)
    have h3 := cum_succ y (m + d) (by omega) (by omega)
    have h4 := mlen_bd y (m + d)
    rw [show m + ((d + 1 : Nat) : Int) = m + d + 1 by omega]
    omega
theorem cum_le (y m m' : Int) (h1 : 1 ≤ m) (h : m ≤ m') (h2 : m' ≤ 13) : cum y m ≤ cum y m' := by
  have := cum_mono y m h1 (m' - m).toNat (by omega)
  rwa [show m + ((m' - m).toNat : Int) = m' by omega] at this
theorem cum_bd (y m : Int) (h1 : 1 ≤ m) (h2 : m ≤ 13) : 0 ≤ cum y m ∧ cum y m ≤ 366 := by
  have a := cum_le y 1 m (by omega) h1 h2
  have b := cum_le y m 13 h1 h2 (by omega)
  have := lp_01 y
  rw [cum_one] at a; rw [cum_end] at b
  omega
/-- A day's date. -/
structure IsDate (n y m d : Int) : Prop where
  hy : 1 ≤ y ∧ y ≤ 9999
  hm : 1 ≤ m ∧ m ≤ 12
  hd : 1 ≤ d ∧ d ≤ mlen y m
  hn : n = dby y + cum y m + d - 1
theorem IsDate.year {n y m d : Int} (h : IsDate n y m d) : dby y ≤ n ∧ n < dby (y + 1) := by
  have h1 := cum_bd y m h.hm.1 (by have := h.hm; omega)
  have h2 := cum_succ y m h.hm.1 h.hm.2
  have h3 := cum_le y (m + 1) 13 (by have := h.hm; omega) (by have := h.hm; omega) (by omega)
  have h4 := dby_succ y h.hy.1
  have := h.hn; have := h.hd
  rw [cum_end] at h3
  omega
theorem IsDate.range {n y m d : Int} (h : IsDate n y m d) : 0 ≤ n ∧ n ≤ 3652058 := by
  have h1 := h.year
  have h2 := dby_bd y h.hy.1 (by have := h.hy; omega)
  have h3 := dby_mono (a := y + 1) (b := 10000) (by have := h.hy; omega) (by have := h.hy; omega)
  rw [dby_top] at h3
  omega
theorem IsDate.unique {n y m d y' m' d' : Int} (h : IsDate n y m d) (k : IsDate n y' m' d') : y = y' ∧ m = m' ∧ d = d' := by
  have h1 := h.year
  have k1 := k.year
  have ey : y = y' := by
    rcases Int.lt_trichotomy y y' with c | c | c
    · have := dby_mono (a := y + 1) (b := y') (by have := h.hy; omega) (by omega); omega
    · exact c
    · have := dby_mono (a := y' + 1) (b := y) (by have := k.hy; omega) (by omega); omega
  subst ey
  have hn := h.hn; have kn := k.hn; have hd := h.hd; have kd := k.hd; have hm := h.hm; have km := k.hm
  have c1 := cum_succ y m hm.1 hm.2
  have c2 := cum_succ y m' km.1 km.2
  have em : m = m' := by
    rcases Int.lt_trichotomy m m' with c | c | c
    · have := cum_le y (m + 1) m' (by omega) (by omega) (by omega); omega
    · exact c
    · have := cum_le y (m' + 1) m (by omega) (by omega) (by omega); omega
  subst em
  exact ⟨rfl, rfl, by omega⟩
theorem IsDate.later {n y m d n' y' m' d' : Int} (h : IsDate n y m d) (k : IsDate n' y' m' d') : (y < y' ∨ y = y' ∧ (m < m' ∨ m = m' ∧ d < d')) ↔ n < n' := by
  have h1 := h.year; have k1 := k.year
  have hn := h.hn; have kn := k.hn; have hd := h.hd; have kd := k.hd; have hm := h.hm; have km := k.hm
  constructor
  · rintro (c | ⟨rfl, c | ⟨rfl, c⟩⟩)
    · have := dby_mono (a := y + 1) (b := y') (by have := h.hy; omega) (by omega); omega
    · have c1 := cum_succ y m hm.1 hm.2
      have := cum_le y (m + 1) m' (by omega) (by omega) (by omega); omega
    · omega
  · intro c
    rcases Int.lt_trichotomy y y' with e | rfl | e
    · exact .inl e
    · refine .inr ⟨rfl, ?_⟩
      rcases Int.lt_trichotomy m m' with e | rfl | e
      · exact .inl e
      · exact .inr ⟨rfl, by omega⟩
      · have c2 := cum_succ y m' km.1 km.2
        have := cum_le y (m' + 1) m (by omega) (by omega) (by omega); omega
    · have := dby_mono (a := y' + 1) (b := y) (by have := k.hy; omega) (by omega); omega
theorem IsDate.next_day {n y m d : Int} (h : IsDate n y m d) (hd : d < mlen y m) : IsDate (n + 1) y m (d + 1) :=
  ⟨h.hy, h.hm, ⟨by have := h.hd; omega, by omega⟩, by have := h.hn; omega⟩
theorem IsDate.next_month {n y m d : Int} (h : IsDate n y m d) (hd : d = mlen y m) (hm : m < 12) : IsDate (n + 1) y (m + 1) 1 :=
  ⟨h.hy, ⟨by have := h.hm; omega, by omega⟩, ⟨by omega, by have := mlen_bd y (m + 1); omega⟩, by have := h.hn; have := cum_succ y m h.hm.1 h.hm.2; omega⟩
theorem IsDate.next_year {n y m d : Int} (h : IsDate n y m d) (hd : d = mlen y m) (hm : m = 12) (hn : n < 3652058) : IsDate (n + 1) (y + 1) 1 1 := by
  have h1 := h.hn; have h2 := cum_succ y m h.hm.1 h.hm.2; have h3 := dby_succ y h.hy.1
  subst hm
  rw [show (12 : Int) + 1 = 13 by omega, cum_end] at h2
  refine ⟨⟨by have := h.hy; omega, ?_⟩, by omega, ⟨by omega, by have := mlen_bd (y + 1) 1; omega⟩, by rw [cum_one]; omega⟩
  by_cases c : 9999 < y + 1
  · have := dby_mono (a := 10000) (b := y + 1) (by omega) (by omega)
    rw [dby_top] at this
    omega
  · omega
theorem dates_exist (n : Int) (h0 : 0 ≤ n) (h1 : n ≤ 3652058) {y : Int} (hy : 1 ≤ y ∧ y ≤ 9999) (hb : dby y ≤ n) (he : n < dby (y + 1)) {m : Int} (hm : 1 ≤ m ∧ m ≤ 12) (hc : cum y m ≤ n - dby y) (hc' : n - dby y - cum y m + 1 ≤ mlen y m) : IsDate n y m (n - dby y - cum y m + 1) :=
  ⟨hy, hm, ⟨by omega, hc'⟩, by omega⟩
theorem tdiv0 {a b : Int} (h : 0 ≤ a) : Int.tdiv a b = a / b := Int.tdiv_eq_ediv_of_nonneg h
theorem tmod0 {a b : Int} (h : 0 ≤ a) : Int.tmod a b = a % b := Int.tmod_eq_emod_of_nonneg h

end Go.Proofs.YtldicnmpegkicaaDoor.M
