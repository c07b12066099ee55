/- The pure statement behind the law QuillLays, over numbers and lists alone. Conditions: those that the printed statement names (each number is of its kind). -/
import Derived.Test.YtdojgjbiilnjpaaDQuillLays
import Derived.Test.YtdojgjbiilnjpaaMquilmath
set_option linter.unusedVariables false
set_option linter.unusedSimpArgs false
namespace Go.Proofs.Ytdojgjbiilnjpaa.PQuillLays
open Go.RowKit Go.Proofs.YtdojgjbiilnjpaaW.PrintWords Go.Proofs.YtdojgjbiilnjpaaW.PrintLast Go.Proofs.YtdojgjbiilnjpaaW.PrintMore Go.Proofs.Ytdojgjbiilnjpaa.M

theorem same_l0 (L M : List Int) (hlm : L.length = M.length) (hb : L.length ≤ 1000000) : ∀ (j k i : Nat), L.length - i = j → i ≤ L.length → j < k → arrearsref01_Same.l0 k L M (L.length : Int) (i : Int) = some (decide (L.drop i = M.drop i)) := by
  intro j
  induction j with
  | zero =>
    intro k i hj hi hk
    obtain ⟨k, rfl⟩ : ∃ q, k = q + 1 := ⟨k - 1, by omega⟩
    unfold arrearsref01_Same.l0
    rw [if_neg (by omega), List.drop_of_length_le (by omega), List.drop_of_length_le (by omega)]
    simp
  | succ j ih =>
    intro k i hj hi hk
    obtain ⟨k, rfl⟩ : ∃ q, k = q + 1 := ⟨k - 1, by omega⟩
    have hil : i < L.length := by omega
    have him : i < M.length := by omega
    have e1 : rd L (i : Int) = L[i] := by simp [rd, List.getD, List.getElem?_eq_getElem hil]
    have e2 : rd M (i : Int) = M[i] := by simp [rd, List.getD, List.getElem?_eq_getElem him]
    have d1 : L.drop i = L[i] :: L.drop (i + 1) := List.drop_eq_getElem_cons hil
    have d2 : M.drop i = M[i] :: M.drop (i + 1) := List.drop_eq_getElem_cons him
    unfold arrearsref01_Same.l0
    rw [if_pos (by omega), if_pos (by omega), if_pos (by omega), if_pos (by omega), e1, e2, d1, d2]
    by_cases c : L[i] = M[i]
    · rw [if_pos c, show wrap64 ((i : Int) + 1) = ((i + 1 : Nat) : Int) by unfold wrap64; omega, ih k (i + 1) (by omega) (by omega) (by omega)]
      congr 1
      exact decide_eq_decide.2 ⟨fun e => by rw [c, e], fun e => (List.cons.inj e).2⟩
    · rw [if_neg c]
      congr 1
      symm
      exact decide_eq_false (fun e => c (List.cons.inj e).1)
theorem same_eq (L M : List Int) (hb : L.length ≤ 1000000) (k : Nat) (hk : L.length < k) : arrearsref01_Same.f k L M = some (decide (L = M)) := by
  unfold arrearsref01_Same.f
  by_cases c : (L.length : Int) = (M.length : Int)
  · rw [if_pos c]
    have := same_l0 L M (by omega) hb L.length k 0 (by omega) (by omega) hk
    simpa using this
  · rw [if_neg c]
    have : L ≠ M := fun e => c (by rw [e])
    simp [this]

/-- A value of the law's argument. -/
def VOk (v : S40) : Prop := (0 ≤ v.f0 ∧ v.f0 ≤ 255) ∧ (0 ≤ v.f1 ∧ v.f1 ≤ 18446744073709551615) ∧ (-9223372036854775808 ≤ v.f2 ∧ v.f2 ≤ 9223372036854775807) ∧ (v.f3.size ≤ 9223372036854775807) ∧ (0 ≤ v.f4 ∧ v.f4 ≤ 18446744073709551615)
/-- .. cut short. -/
def VFew (v : S40) : Prop := (0 ≤ v.f0 ∧ v.f0 ≤ 255) ∧ (0 ≤ v.f1 ∧ v.f1 ≤ 18446744073709551615) ∧ (-9223372036854775808 ≤ v.f2 ∧ v.f2 ≤ 9223372036854775807) ∧ v.f3.size ≤ 40 ∧ (0 ≤ v.f4 ∧ v.f4 ≤ 18446744073709551615) ∧ (v.f0 % 4 = 3 → v.f4 < 1000)
def fewOne (v : S40) : S40 := ⟨v.f0, v.f1, v.f2, v.f3.extract 0 (min v.f3.size 40), if v.f0 % 4 = 3 then v.f4 % 1000 else v.f4⟩
theorem few_ok {v : S40} (h : VOk v) : VFew (fewOne v) := by
  obtain ⟨h0, h1, h2, h3, h4⟩ := h
  refine ⟨h0, h1, h2, ?_, ?_, ?_⟩
  · show (v.f3.extract 0 (min v.f3.size 40)).size ≤ 40
    rw [ByteArray.size_extract]
    omega
  · show 0 ≤ (if v.f0 % 4 = 3 then v.f4 % 1000 else v.f4) ∧ (if v.f0 % 4 = 3 then v.f4 % 1000 else v.f4) ≤ 18446744073709551615
    split <;> omega
  · intro hk
    show (if v.f0 % 4 = 3 then v.f4 % 1000 else v.f4) < 1000
    have hk' : v.f0 % 4 = 3 := hk
    rw [if_pos hk']
    omega
theorem text_few (s : ByteArray) (hs : s.size ≤ 9223372036854775807) : arrearsref01_Text.f s 40 = some (s.extract 0 (min s.size 40)) := by
  unfold arrearsref01_Text.f
  have hm : mn (s.size : Int) 40 = ((min s.size 40 : Nat) : Int) := by unfold mn; split <;> omega
  rw [hm, if_pos (by omega), if_pos (by omega), Int.toNat_natCast]
theorem few_l0 (L : List S40) (hL : ∀ x ∈ L, VOk x) (hlen : L.length ≤ 2932031007400) : ∀ (j k i : Nat), L.length - i = j → i ≤ L.length → j < k → arrearslaw08_few.l0 k (((L.take i).take 12).map fewOne) L (L.length : Int) (i : Int) = some ((L.take 12).map fewOne) := by
  intro j
  induction j with
  | zero =>
    intro k i hj hi hk
    obtain ⟨k, rfl⟩ : ∃ q, k = q + 1 := ⟨k - 1, by omega⟩
    unfold arrearslaw08_few.l0
    rw [if_neg (by omega), List.take_of_length_le (show L.length ≤ i by omega)]
  | succ j ih =>
    intro k i hj hi hk
    obtain ⟨k, rfl⟩ : ∃ q, k = q + 1 := ⟨k - 1, by omega⟩
    have hil : i < L.length := by omega
    have hw : wrap64 ((i : Int) + 1) = ((i + 1 : Nat) : Int) := by unfold wrap64; omega
    have e1 : rd_T40 L (i : Int) = L[i] := by simp [rd_T40, List.getD, List.getElem?_eq_getElem hil]
    have hv := hL _ (List.getElem_mem hil)
    unfold arrearslaw08_few.l0
    rw [if_pos (by omega), if_pos (by omega), if_pos (by omega), e1, hw]
    by_cases c : (i : Int) < 12
    · rw [if_pos c, text_few _ hv.2.2.2.1]
      simp only [Option.bind_some]
      have hlt : (((L.take i).take 12).map fewOne).length < 2932031007402 := by rw [List.length_map, List.length_take, List.length_take]; omega
      have e : ((L.take i).take 12).map fewOne ++ [fewOne L[i]] = ((L.take (i + 1)).take 12).map fewOne := by
        rw [List.take_take, List.take_take, show min 12 i = i by omega, show min 12 (i + 1) = i + 1 by omega, List.take_succ_eq_append_getElem hil, List.map_append]
        rfl
      have ht : Int.tmod L[i].f0 4 = L[i].f0 % 4 := Int.tmod_eq_emod_of_nonneg hv.1.1
      have ht2 : Int.tmod L[i].f4 1000 = L[i].f4 % 1000 := Int.tmod_eq_emod_of_nonneg hv.2.2.2.2.1
      have hih := ih k (i + 1) (by omega) (by omega) (by omega)
      rw [← e] at hih
      by_cases c3 : Int.tmod L[i].f0 4 = 3
      · rw [if_pos c3, if_pos hlt, ht2]
        rw [show fewOne L[i] = ⟨L[i].f0, L[i].f1, L[i].f2, L[i].f3.extract 0 (min L[i].f3.size 40), L[i].f4 % 1000⟩ by unfold fewOne; rw [if_pos (by omega)]] at hih
        exact hih
      · rw [if_neg c3, if_pos hlt]
        rw [show fewOne L[i] = ⟨L[i].f0, L[i].f1, L[i].f2, L[i].f3.extract 0 (min L[i].f3.size 40), L[i].f4⟩ by unfold fewOne; rw [if_neg (by omega)]] at hih
        exact hih
    · rw [if_neg c]
      have e : (L.take i).take 12 = (L.take (i + 1)).take 12 := by
        rw [List.take_take, List.take_take, show min 12 i = 12 by omega, show min 12 (i + 1) = 12 by omega]
      rw [e]
      exact ih k (i + 1) (by omega) (by omega) (by omega)
theorem few_eq (L : List S40) (hL : ∀ x ∈ L, VOk x) (hlen : L.length ≤ 2932031007400) (k : Nat) (hk : L.length < k) : arrearslaw08_few.f k L = some ((L.take 12).map fewOne) := by
  unfold arrearslaw08_few.f
  have := few_l0 L hL hlen L.length k 0 (by omega) (by omega) hk
  simpa using this
theorem few_all (L : List S40) (hL : ∀ x ∈ L, VOk x) : ∀ x ∈ (L.take 12).map fewOne, VFew x := by
  intro x hx
  obtain ⟨y, hy, rfl⟩ := List.mem_map.1 hx
  exact few_ok (hL y (List.mem_of_mem_take hy))
theorem few_len (L : List S40) : ((L.take 12).map fewOne).length ≤ 12 := by rw [List.length_map, List.length_take]; omega

theorem join_l0 (L : List (List Int)) (hb : L.length ≤ 1000) : ∀ (j k i : Nat) (acc : List Int), L.length - i = j → i ≤ L.length → j < k → acc.length + (L.drop i).flatten.length < 140737488355328 → arrearsref01_Join.l0 k acc L (L.length : Int) (i : Int) = some (acc ++ (L.drop i).flatten) := by
  intro j
  induction j with
  | zero =>
    intro k i acc hj hi hk hl
    obtain ⟨k, rfl⟩ : ∃ q, k = q + 1 := ⟨k - 1, by omega⟩
    unfold arrearsref01_Join.l0
    rw [if_neg (by omega), List.drop_of_length_le (by omega)]
    simp
  | succ j ih =>
    intro k i acc hj hi hk hl
    obtain ⟨k, rfl⟩ : ∃ q, k = q + 1 := ⟨k - 1, by omega⟩
    have hil : i < L.length := by omega
    have e1 : rd_L5 L (i : Int) = L[i] := by simp [rd_L5, List.getD, List.getElem?_eq_getElem hil]
    have d1 : L.drop i = L[i] :: L.drop (i + 1) := List.drop_eq_getElem_cons hil
    rw [d1, List.flatten_cons, List.length_append] at hl
    unfold arrearsref01_Join.l0
    rw [if_pos (by omega), if_pos (by omega), if_pos (by omega), e1, if_pos (by omega), show wrap64 ((i : Int) + 1) = ((i + 1 : Nat) : Int) by unfold wrap64; omega,
      ih k (i + 1) _ (by omega) (by omega) (by omega) (by rw [List.length_append]; omega), d1, List.flatten_cons, List.append_assoc]
theorem join_eq (L : List (List Int)) (hb : L.length ≤ 1000) (k : Nat) (hk : L.length < k) (hl : L.flatten.length < 140737488355328) : arrearsref01_Join.f k L = some L.flatten := by
  unfold arrearsref01_Join.f
  have := join_l0 L hb L.length k 0 [] (by omega) (by omega) hk (by simpa using hl)
  simpa using this

theorem nby_snoc (n : Nat) : ∀ j, nby n (j + 1) = nby (n / 256) j ++ [((n % 256 : Nat) : Int)] := by
  intro j
  induction j with
  | zero => simp [nby]
  | succ j ih =>
    rw [nby, ih, nby, List.cons_append]
    have e : n / 2 ^ (8 * (j + 1)) = n / 256 / 2 ^ (8 * j) := by
      rw [Nat.div_div_eq_div_mul, show 8 * (j + 1) = 8 * j + 8 by omega, Nat.pow_add, Nat.mul_comm]
    rw [e]
theorem nsz_step (n : Nat) (hn : n < 18446744073709551616) (h0 : n ≠ 0) : nsz n = nsz (n / 256) + 1 := by
  by_cases c : n / 256 = 0
  · rw [c, nsz_zero]
    exact nsz_of n 1 hn (by simp; omega) (by omega) (by omega)
  · obtain ⟨h1, h2, h3⟩ := nsz_bd (n / 256) (by omega) c
    refine nsz_of n _ hn ?_ ?_ (by omega)
    · rw [show nsz (n / 256) + 1 - 1 = nsz (n / 256) - 1 + 1 by omega, Nat.pow_succ]
      omega
    · rw [Nat.pow_succ]
      omega
theorem nsz_le (n : Nat) (hn : n < 18446744073709551616) : nsz n ≤ 8 := by
  by_cases c : n = 0
  · rw [c, nsz_zero]; omega
  · obtain ⟨h1, h2, h3⟩ := nsz_bd n hn c
    by_cases d : nsz n ≤ 8
    · exact d
    · have : 256 ^ 8 ≤ 256 ^ (nsz n - 1) := Nat.pow_le_pow_right (by omega) (by omega)
      omega
theorem digits_eq : ∀ (j k n : Nat), n < 256 ^ j → j ≤ 8 → j + 3 ≤ k → arrearsref08_digits.f k (n : Int) = some (nby n (nsz n)) := by
  intro j
  induction j with
  | zero =>
    intro k n hn hj hk
    obtain ⟨k, rfl⟩ : ∃ q, k = q + 1 := ⟨k - 1, by omega⟩
    have hz : n = 0 := by simp at hn; exact hn
    subst hz
    rw [arrearsref08_digits.f, if_pos (show ((0 : Nat) : Int) = 0 from rfl), nsz_zero]
    rfl
  | succ j ih =>
    intro k n hn hj hk
    obtain ⟨k, rfl⟩ : ∃ q, k = q + 1 := ⟨k - 1, by omega⟩
    have hb : n < 18446744073709551616 := Nat.lt_of_lt_of_le hn (Nat.le_trans (Nat.pow_le_pow_right (by omega) hj) (by decide))
    rw [arrearsref08_digits.f]
    by_cases c : n = 0
    · subst c
      rw [if_pos (show ((0 : Nat) : Int) = 0 from rfl), nsz_zero]
      rfl
    · rw [if_neg (by omega)]
      have e1 : IntKind.u64.wrap (Int.tdiv (n : Int) 256) = ((n / 256 : Nat) : Int) := by
        rw [Int.tdiv_eq_ediv_of_nonneg (by omega), IntKind.wrap_u64]
        omega
      have e2 : Int.tmod (n : Int) 256 % 256 = ((n % 256 : Nat) : Int) := by
        rw [Int.tmod_eq_emod_of_nonneg (by omega)]
        omega
      rw [e1, e2, ih k (n / 256) (by rw [Nat.pow_succ] at hn; omega) (by omega) (by omega)]
      simp only [Option.bind_some]
      have hl : (nby (n / 256) (nsz (n / 256))).length ≤ 8 := by rw [nby_len]; exact nsz_le _ (by omega)
      rw [join_eq _ (by simp) k (by simp; omega) (by simp; omega)]
      simp only [Option.bind_some]
      rw [nsz_step n hb c, nby_snoc]
      simp
theorem uint_eq (k n : Nat) (hn : n < 18446744073709551616) (hk : 11 ≤ k) : arrearsref08_Uint.f k (n : Int) = some (nlay n 0) := by
  have hl := nsz_le n hn
  unfold arrearsref08_Uint.f
  rw [digits_eq 8 k n (by omega) (by omega) (by omega)]
  simp only [Option.bind_some, nby_len]
  rw [join_eq _ (by simp) k (by simp; omega) (by simp [nby_len]; omega)]
  have e : ((nsz n : Nat) : Int) % 256 = ((0 + nsz n : Nat) : Int) := by omega
  simp only [Option.bind_some, e]
  simp [nlay]
theorem int_eq (k : Nat) (i : Int) (h0 : -9223372036854775808 ≤ i) (h1 : i ≤ 9223372036854775807) (hk : 11 ≤ k) : arrearsref08_Int.f k i = some (qint i) := by
  unfold arrearsref08_Int.f qint
  by_cases c : i < 0
  · rw [if_neg (by omega), if_pos c]
    have e : IntKind.u64.wrap (wrap64 (-(wrap64 (i + 1)))) = (((-1 - i).toNat : Nat) : Int) := by
      rw [IntKind.wrap_u64]; unfold wrap64; omega
    rw [e, uint_eq k _ (by omega) hk]
    have hl := nsz_le (-1 - i).toNat (by omega)
    simp only [Option.bind_some]
    rw [if_pos (by rw [nlay_len]; omega)]
    have e2 : rd (nlay (-1 - i).toNat 0) 0 = ((0 + nsz (-1 - i).toNat : Nat) : Int) := rfl
    rw [e2, show (((0 + nsz (-1 - i).toNat : Nat) : Int) + 128) % 256 = ((128 + nsz (-1 - i).toNat : Nat) : Int) by omega]
    rfl
  · rw [if_pos (by omega), if_neg c]
    have e : IntKind.u64.wrap i = ((i.toNat : Nat) : Int) := by rw [IntKind.wrap_u64]; omega
    rw [e, uint_eq k _ (by omega) hk]
    rfl
theorem bytes_len (s : ByteArray) : (bytesOf s).length = s.size := by simp [bytesOf]
theorem lay_eq (k : Nat) {v : S40} (hv : VFew v) (hk : 11 ≤ k) : arrearsref08_Lay.f k v.f0 v.f1 v.f2 v.f3 v.f4 = some (qlay v.f0 v.f1 v.f2 v.f3) := by
  obtain ⟨⟨h0, h0'⟩, ⟨h1, h1'⟩, ⟨h2, h2'⟩, h3, _, _⟩ := hv
  have ht : Int.tmod v.f0 4 = v.f0 % 4 := Int.tmod_eq_emod_of_nonneg h0
  have hu : Int.tmod v.f1 2 = v.f1 % 2 := Int.tmod_eq_emod_of_nonneg h1
  unfold arrearsref08_Lay.f qlay
  rw [ht, hu]
  by_cases c0 : v.f0 % 4 = 0
  · rw [if_pos c0, if_pos c0]
    have e : v.f1 = ((v.f1.toNat : Nat) : Int) := by omega
    rw [e, uint_eq k _ (by omega) hk, Int.toNat_natCast]
    rfl
  · rw [if_neg c0, if_neg c0]
    by_cases c1 : v.f0 % 4 = 1
    · rw [if_pos c1, if_pos c1, int_eq k _ h2 h2' hk]
      rfl
    · rw [if_neg c1, if_neg c1]
      by_cases c2 : v.f0 % 4 = 2
      · rw [if_pos c2, if_pos c2]
        unfold arrearsref08_Flag.f
        by_cases c : v.f1 % 2 = 1
        · rw [if_pos (by simp [c]), if_pos c]
          decide
        · rw [if_neg (by simp [c]), if_neg c]
          decide
      · rw [if_neg c2, if_neg c2]
        unfold arrearsref08_Text.f
        rw [if_pos (by omega), uint_eq k _ (by omega) hk]
        simp only [Option.bind_some]
        have hl := nsz_le v.f3.size (by omega)
        rw [join_eq _ (by simp) k (by simp; omega) (by simp [nlay_len, bytes_len]; omega)]
        simp
/-- The bytes of all. -/
def allq : List S40 → List Int
  | [] => []
  | v :: r => qlay v.f0 v.f1 v.f2 v.f3 ++ allq r
theorem vlay_len {v : S40} (hv : VFew v) : (qlay v.f0 v.f1 v.f2 v.f3).length ≤ 49 := by
  have := qlay_len v.f0 v.f1 v.f2 v.f3 hv.2.1 hv.2.2.1 (by have := hv.2.2.2.1; omega)
  have := hv.2.2.2.1
  omega
theorem vlay_rng {v : S40} (hv : VFew v) : rng (qlay v.f0 v.f1 v.f2 v.f3) := by
  obtain ⟨⟨h0, h0'⟩, ⟨h1, h1'⟩, ⟨h2, h2'⟩, h3, _, _⟩ := hv
  unfold qlay
  split
  · exact nlay_rng _ _ (by omega) (by omega)
  · split
    · exact qint_rng _ h2 h2'
    · split
      · exact nlay_rng _ _ (by split <;> omega) (by omega)
      · exact rng_app.2 ⟨nlay_rng _ _ (by omega) (by omega), bytesOf_rng _⟩
theorem allq_len : ∀ (l : List S40), (∀ x ∈ l, VFew x) → (allq l).length ≤ 49 * l.length := by
  intro l
  induction l with
  | nil => intro _; simp [allq]
  | cons v r ih =>
    intro h
    have h1 := vlay_len (h v (List.mem_cons_self ..))
    have h2 := ih (fun x hx => h x (List.mem_cons_of_mem _ hx))
    rw [allq, List.length_append, List.length_cons]
    omega
theorem allq_rng : ∀ (l : List S40), (∀ x ∈ l, VFew x) → rng (allq l) := by
  intro l
  induction l with
  | nil => intro _ x hx; simp [allq] at hx
  | cons v r ih =>
    intro h
    exact rng_app.2 ⟨vlay_rng (h v (List.mem_cons_self ..)), ih (fun x hx => h x (List.mem_cons_of_mem _ hx))⟩
theorem go1_eq (k : Nat) (hk : 11 ≤ k) : ∀ (l : List S40) (q : List Int), (∀ x ∈ l, VFew x) → q.length + 49 * l.length ≤ 1000 → arrearslaw08_QuillLays.go1 k l q q = some (q ++ allq l, q ++ allq l) := by
  intro l
  induction l with
  | nil => intro q _ _; simp [arrearslaw08_QuillLays.go1, allq]
  | cons v r ih =>
    intro q h hl
    have hv := h v (List.mem_cons_self ..)
    have h1 := vlay_len hv
    rw [List.length_cons] at hl
    rw [arrearslaw08_QuillLays.go1, if_pos ⟨⟨hv.1, hv.2.1, hv.2.2.1, by have := hv.2.2.2.1; omega⟩, by omega⟩, lay_eq k hv hk]
    simp only [Option.bind_some]
    rw [join_eq _ (by simp) k (by simp; omega) (by simp; omega)]
    simp only [Option.bind_some, List.flatten_cons, List.flatten_nil, List.append_nil]
    rw [ih _ (fun x hx => h x (List.mem_cons_of_mem _ hx)) (by rw [List.length_append]; omega), allq, List.append_assoc]
theorem take_both {v : S40} (hv : VFew v) (R : List Int) : ∃ T, rtake (qlay v.f0 v.f1 v.f2 v.f3 ++ R) v.f0 (most8 v.f0) = some (T, R) ∧ qtake (some (qlay v.f0 v.f1 v.f2 v.f3 ++ R)) v.f0 (most8 v.f0) = (T, some R) := by
  obtain ⟨⟨h0, h0'⟩, ⟨h1, h1'⟩, ⟨h2, h2'⟩, h3, _, _⟩ := hv
  unfold qlay rtake qtake most8
  by_cases c0 : v.f0 % 4 = 0
  · simp only [if_pos c0]
    rw [inum_nlay _ 0 (by omega) (Or.inl rfl), if_neg (by omega), luint_nlay _ (by omega), if_pos (by omega)]
    simp only [if_pos c0]
    rw [if_pos ⟨by decide, by omega⟩]
    exact ⟨_, rfl, rfl⟩
  · simp only [if_neg c0]
    by_cases c1 : v.f0 % 4 = 1
    · simp only [if_pos c1]
      rw [lint_qint _ h2 h2']
      unfold qint
      by_cases c : v.f2 < 0
      · rw [if_pos c, inum_nlay _ 128 (by omega) (Or.inr rfl)]
        simp only [if_neg c0, if_pos c1]
        rw [if_pos (by omega), if_pos (by decide), show (-1 - (((-1 - v.f2).toNat : Nat) : Int)) = v.f2 by omega]
        exact ⟨_, rfl, rfl⟩
      · rw [if_neg c, inum_nlay _ 0 (by omega) (Or.inl rfl)]
        simp only [if_neg c0, if_pos c1]
        rw [if_pos (by omega), if_neg (by decide), show ((v.f2.toNat : Nat) : Int) = v.f2 by omega]
        exact ⟨_, rfl, rfl⟩
    · simp only [if_neg c1]
      by_cases c2 : v.f0 % 4 = 2
      · simp only [if_pos c2]
        by_cases c : v.f1 % 2 = 1
        · simp only [if_pos c]
          have hlu : luint (some (nlay 1 0 ++ R)) 1 = (1, some R) := by rw [luint_nlay 1 (by omega)]; simp
          rw [inum_nlay 1 0 (by omega) (Or.inl rfl), hlu]
          simp only [if_neg c0, if_neg c1, if_pos c2]
          rw [if_pos ⟨by decide, by omega⟩]
          exact ⟨_, rfl, rfl⟩
        · simp only [if_neg c]
          have hlu : luint (some (nlay 0 0 ++ R)) 1 = (0, some R) := by rw [luint_nlay 0 (by omega)]; simp
          rw [inum_nlay 0 0 (by omega) (Or.inl rfl), hlu]
          simp only [if_neg c0, if_neg c1, if_pos c2]
          rw [if_pos ⟨by decide, by omega⟩]
          exact ⟨_, rfl, rfl⟩
      · simp only [if_neg c2]
        have c3 : v.f0 % 4 = 3 := by omega
        have hb := bytes_len v.f3
        have et : (bytesOf v.f3 ++ R).take v.f3.size = bytesOf v.f3 := by rw [← hb]; exact List.take_left' rfl
        have ed : (bytesOf v.f3 ++ R).drop v.f3.size = R := by rw [← hb]; exact List.drop_left' rfl
        rw [if_pos c3, List.append_assoc, inum_nlay _ 0 (by omega) (Or.inl rfl)]
        unfold ltext
        rw [luint_nlay _ (by omega), if_pos (by omega)]
        simp only [if_neg c0, if_neg c1, if_neg c2, Int.toNat_natCast, et, ed, str_bytesOf]
        rw [if_pos ⟨by decide, by omega, by rw [List.length_append]; omega⟩, if_pos (by rw [List.length_append]; omega)]
        exact ⟨_, rfl, rfl⟩
theorem go2_eq : ∀ (l : List S40), (∀ x ∈ l, VFew x) → l.length ≤ 12 → arrearslaw08_QuillLays.go2 l (some (allq l)) (allq l) = some (some []) := by
  intro l
  induction l with
  | nil => intro _ _; simp [arrearslaw08_QuillLays.go2, allq]
  | cons v r ih =>
    intro h hl
    have hv := h v (List.mem_cons_self ..)
    have hln := allq_len _ h
    have hrn := allq_rng _ h
    rw [List.length_cons] at hl hln
    obtain ⟨T, h1, h2⟩ := take_both hv (allq r)
    rw [arrearslaw08_QuillLays.go2, if_pos ⟨hv.1, by omega, by rw [List.all_eq_true]; exact fun x hx => decide_eq_true (hrn x hx)⟩, allq, h1, h2]
    simp only
    rw [if_pos (by simp [lrest])]
    exact ih (fun x hx => h x (List.mem_cons_of_mem _ hx)) (by omega)
theorem pure_proved : arrearslaw08_QuillLays.Pure := by
  intro l0 h0 h0r
  refine ⟨l0.length + 2000, ?_⟩
  have hL : ∀ x ∈ l0, VOk x := h0r
  have ha := few_all l0 hL
  have hf := few_len l0
  unfold arrearslaw08_QuillLays.f
  rw [few_eq l0 hL (by omega) _ (by omega)]
  simp only [Option.bind_some]
  generalize (l0.take 12).map fewOne = l at ha hf
  have hln := allq_len l ha
  have hrn := allq_rng l ha
  rw [go1_eq _ (by omega) l [] ha (by simp only [List.length_nil]; omega)]
  simp only [Option.bind_some, List.nil_append]
  rw [if_pos ⟨by omega, by omega, by rw [List.all_eq_true]; exact fun x hx => decide_eq_true (hrn x hx), by rw [same_eq _ _ (by omega) _ (by omega)]; simp⟩, go2_eq l ha hf]
  simp [lend]

end Go.Proofs.Ytdojgjbiilnjpaa.PQuillLays
