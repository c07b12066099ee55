/- The pure statement behind the law QuillNil, over numbers and lists alone. Conditions: those that the printed statement names (each number is of its kind). -/
import Derived.Test.YtdojgjbiilnjpaaDoorDQuillNil
import Derived.Test.YtdojgjbiilnjpaaDoorMquilmath
set_option linter.unusedVariables false
set_option linter.unusedSimpArgs false
namespace Go.Proofs.YtdojgjbiilnjpaaDoor.PQuillNil
open Go.RowKit Go.Proofs.YtdojgjbiilnjpaaDoorW.PrintWords Go.Proofs.YtdojgjbiilnjpaaDoorW.PrintLast Go.Proofs.YtdojgjbiilnjpaaDoorW.PrintMore Go.Proofs.YtdojgjbiilnjpaaDoor.M

theorem same_l0 (L M : List Int) (hlm : L.length = M.length) (hb : L.length ≤ 1000000) : ∀ (j k i : Nat), L.length - i = j → i ≤ L.length → j < k → arrearsref01_Same.l0 k L M (L.length : Int) (i : Int) = some (decide (L.drop i = M.drop i)) := by
  intro j
  induction j with
  | zero =>
    intro k i hj hi hk
    obtain ⟨k, rfl⟩ : ∃ q, k = q + 1 := ⟨k - 1, by omega⟩
    unfold arrearsref01_Same.l0
    rw [if_neg (by omega), List.drop_of_length_le (by omega), List.drop_of_length_le (by omega)]
    simp
  | succ j ih =>
    intro k i hj hi hk
    obtain ⟨k, rfl⟩ : ∃ q, k = q + 1 := ⟨k - 1, by omega⟩
    have hil : i < L.length := by omega
    have him : i < M.length := by omega
    have e1 : rd L (i : Int) = L[i] := by simp [rd, List.getD, List.getElem?_eq_getElem hil]
    have e2 : rd M (i : Int) = M[i] := by simp [rd, List.getD, List.getElem?_eq_getElem him]
    have d1 : L.drop i = L[i] :: L.drop (i + 1) := List.drop_eq_getElem_cons hil
    have d2 : M.drop i = M[i] :: M.drop (i + 1) := List.drop_eq_getElem_cons him
    unfold arrearsref01_Same.l0
    rw [if_pos (by omega), if_pos (by omega), if_pos (by omega), if_pos (by omega), e1, e2, d1, d2]
    by_cases c : L[i] = M[i]
    · rw [if_pos c, show wrap64 ((i : Int) + 1) = ((i + 1 : Nat) : Int) by unfold wrap64; omega, ih k (i + 1) (by omega) (by omega) (by omega)]
      congr 1
      exact decide_eq_decide.2 ⟨fun e => by rw [c, e], fun e => (List.cons.inj e).2⟩
    · rw [if_neg c]
      congr 1
      symm
      exact decide_eq_false (fun e => c (List.cons.inj e).1)
theorem same_eq (L M : List Int) (hb : L.length ≤ 1000000) (k : Nat) (hk : L.length < k) : arrearsref01_Same.f k L M = some (decide (L = M)) := by
  unfold arrearsref01_Same.f
  by_cases c : (L.length : Int) = (M.length : Int)
  · rw [if_pos c]
    have := same_l0 L M (by omega) hb L.length k 0 (by omega) (by omega) hk
    simpa using this
  · rw [if_neg c]
    have : L ≠ M := fun e => c (by rw [e])
    simp [this]

theorem join_l0 (L : List (List Int)) (hb : L.length ≤ 1000) : ∀ (j k i : Nat) (acc : List Int), L.length - i = j → i ≤ L.length → j < k → acc.length + (L.drop i).flatten.length < 140737488355328 → arrearsref01_Join.l0 k acc L (L.length : Int) (i : Int) = some (acc ++ (L.drop i).flatten) := by
  intro j
  induction j with
  | zero =>
    intro k i acc hj hi hk hl
    obtain ⟨k, rfl⟩ : ∃ q, k = q + 1 := ⟨k - 1, by omega⟩
    unfold arrearsref01_Join.l0
    rw [if_neg (by omega), List.drop_of_length_le (by omega)]
    simp
  | succ j ih =>
    intro k i acc hj hi hk hl
    obtain ⟨k, rfl⟩ : ∃ q, k = q + 1 := ⟨k - 1, by omega⟩
    have hil : i < L.length := by omega
    have e1 : rd_L1 L (i : Int) = L[i] := by simp [rd_L1, List.getD, List.getElem?_eq_getElem hil]
    have d1 : L.drop i = L[i] :: L.drop (i + 1) := List.drop_eq_getElem_cons hil
    rw [d1, List.flatten_cons, List.length_append] at hl
    unfold arrearsref01_Join.l0
    rw [if_pos (by omega), if_pos (by omega), if_pos (by omega), e1, if_pos (by omega), show wrap64 ((i : Int) + 1) = ((i + 1 : Nat) : Int) by unfold wrap64; omega,
      ih k (i + 1) _ (by omega) (by omega) (by omega) (by rw [List.length_append]; omega), d1, List.flatten_cons, List.append_assoc]
theorem join_eq (L : List (List Int)) (hb : L.length ≤ 1000) (k : Nat) (hk : L.length < k) (hl : L.flatten.length < 140737488355328) : arrearsref01_Join.f k L = some L.flatten := by
  unfold arrearsref01_Join.f
  have := join_l0 L hb L.length k 0 [] (by omega) (by omega) hk (by simpa using hl)
  simpa using this

theorem nby_snoc (n : Nat) : ∀ j, nby n (j + 1) = nby (n / 256) j ++ [((n % 256 : Nat) : Int)] := by
  intro j
  induction j with
  | zero => simp [nby]
  | succ j ih =>
    rw [nby, ih, nby, List.cons_append]
    have e : n / 2 ^ (8 * (j + 1)) = n / 256 / 2 ^ (8 * j) := by
      rw [Nat.div_div_eq_div_mul, show 8 * (j + 1) = 8 * j + 8 by omega, Nat.pow_add, Nat.mul_comm]
    rw [e]
theorem nsz_step (n : Nat) (hn : n < 18446744073709551616) (h0 : n ≠ 0) : nsz n = nsz (n / 256) + 1 := by
  by_cases c : n / 256 = 0
  · rw [c, nsz_zero]
    exact nsz_of n 1 hn (by simp; omega) (by omega) (by omega)
  · obtain ⟨h1, h2, h3⟩ := nsz_bd (n / 256) (by omega) c
    refine nsz_of n _ hn ?_ ?_ (by omega)
    · rw [show nsz (n / 256) + 1 - 1 = nsz (n / 256) - 1 + 1 by omega, Nat.pow_succ]
      omega
    · rw [Nat.pow_succ]
      omega
theorem nsz_le (n : Nat) (hn : n < 18446744073709551616) : nsz n ≤ 8 := by
  by_cases c : n = 0
  · rw [c, nsz_zero]; omega
  · obtain ⟨h1, h2, h3⟩ := nsz_bd n hn c
    by_cases d : nsz n ≤ 8
    · exact d
    · have : 256 ^ 8 ≤ 256 ^ (nsz n - 1) := Nat.pow_le_pow_right (by omega) (by omega)
      omega
theorem digits_eq : ∀ (j k n : Nat), n < 256 ^ j → j ≤ 8 → j + 3 ≤ k → arrearsref08_digits.f k (n : Int) = some (nby n (nsz n)) := by
  intro j
  induction j with
  | zero =>
    intro k n hn hj hk
    obtain ⟨k, rfl⟩ : ∃ q, k = q + 1 := ⟨k - 1, by omega⟩
    have hz : n = 0 := by simp at hn; exact hn
    subst hz
    rw [arrearsref08_digits.f, if_pos (show ((0 : Nat) : Int) = 0 from rfl), nsz_zero]
    rfl
  | succ j ih =>
    intro k n hn hj hk
    obtain ⟨k, rfl⟩ : ∃ q, k = q + 1 := ⟨k - 1, by omega⟩
    have hb : n < 18446744073709551616 := Nat.lt_of_lt_of_le hn (Nat.le_trans (Nat.pow_le_pow_right (by omega) hj) (by decide))
    rw [arrearsref08_digits.f]
    by_cases c : n = 0
    · subst c
      rw [if_pos (show ((0 : Nat) : Int) = 0 from rfl), nsz_zero]
      rfl
    · rw [if_neg (by omega)]
      have e1 : IntKind.u64.wrap (Int.tdiv (n : Int) 256) = ((n / 256 : Nat) : Int) := by
        rw [Int.tdiv_eq_ediv_of_nonneg (by omega), IntKind.wrap_u64]
        omega
      have e2 : Int.tmod (n : Int) 256 % 256 = ((n % 256 : Nat) : Int) := by
        rw [Int.tmod_eq_emod_of_nonneg (by omega)]
        omega
      rw [e1, e2, ih k (n / 256) (by rw [Nat.pow_succ] at hn; omega) (by omega) (by omega)]
      simp only [Option.bind_some]
      have hl : (nby (n / 256) (nsz (n / 256))).length ≤ 8 := by rw [nby_len]; exact nsz_le _ (by omega)
      rw [join_eq _ (by simp) k (by simp; omega) (by simp; omega)]
      simp only [Option.bind_some]
      rw [nsz_step n hb c, nby_snoc]
      simp
theorem uint_eq (k n : Nat) (hn : n < 18446744073709551616) (hk : 11 ≤ k) : arrearsref08_Uint.f k (n : Int) = some (nlay n 0) := by
  have hl := nsz_le n hn
  unfold arrearsref08_Uint.f
  rw [digits_eq 8 k n (by omega) (by omega) (by omega)]
  simp only [Option.bind_some, nby_len]
  rw [join_eq _ (by simp) k (by simp; omega) (by simp [nby_len]; omega)]
  have e : ((nsz n : Nat) : Int) % 256 = ((0 + nsz n : Nat) : Int) := by omega
  simp only [Option.bind_some, e]
  simp [nlay]
theorem bytes_len (s : ByteArray) : (bytesOf s).length = s.size := by simp [bytesOf]

theorem text20 (s : ByteArray) (hs : s.size ≤ 9223372036854775807) : arrearsref01_Text.f s 20 = some (s.extract 0 (min s.size 20)) := by
  unfold arrearsref01_Text.f
  have hm : mn (s.size : Int) 20 = ((min s.size 20 : Nat) : Int) := by unfold mn; split <;> omega
  rw [hm, if_pos (by omega), if_pos (by omega), Int.toNat_natCast]
theorem rtext (k : Nat) (s : ByteArray) (hs : s.size ≤ 20) (hk : 100 ≤ k) : arrearsref08_Text.f k s = some (nlay s.size 0 ++ bytesOf s) := by
  unfold arrearsref08_Text.f
  rw [if_pos (by omega), uint_eq k _ (by omega) (by omega)]
  simp only [Option.bind_some]
  have hl := nsz_le s.size (by omega)
  rw [join_eq _ (by simp) k (by simp; omega) (by simp [nlay_len, bytes_len]; omega)]
  simp
theorem pure_proved : arrearslaw08_QuillNil.Pure := by
  intro a0 a1 a2 h0 h1 h2
  refine ⟨200, ?_⟩
  unfold arrearslaw08_QuillNil.f
  rw [text20 a1 (by omega)]
  simp only [Option.bind_some]
  have hs : (a1.extract 0 (min a1.size 20)).size ≤ 20 := by rw [ByteArray.size_extract]; omega
  generalize a1.extract 0 (min a1.size 20) = s at hs
  rw [rtext _ s hs (by omega)]
  simp only [Option.bind_some]
  have hl := nsz_le s.size (by omega)
  have hb := bytes_len s
  have hlen : (nlay s.size 0 ++ bytesOf s).length ≤ 29 := by rw [List.length_append, nlay_len]; omega
  have hrg : rng (nlay s.size 0 ++ bytesOf s) := rng_app.2 ⟨nlay_rng _ _ (by omega) (by omega), bytesOf_rng _⟩
  have htx : (ltext (some (nlay s.size 0 ++ bytesOf s)) 20).1 = s := by
    have et : (bytesOf s).take s.size = bytesOf s := List.take_of_length_le (by omega)
    unfold ltext
    rw [luint_nlay _ (by omega), if_pos (by omega)]
    simp only [Int.toNat_natCast, et, str_bytesOf]
    rw [if_pos (by omega)]
  rw [if_pos ⟨⟨by omega, by omega, by omega⟩, by omega, by rw [List.all_eq_true]; exact fun x hx => decide_eq_true (hrg x hx), htx, by rw [same_eq _ _ (by omega) _ (by omega)]; simp⟩]

end Go.Proofs.YtdojgjbiilnjpaaDoor.PQuillNil
