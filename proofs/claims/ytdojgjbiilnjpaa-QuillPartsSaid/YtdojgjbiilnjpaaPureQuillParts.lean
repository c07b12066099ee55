/- The pure statement behind the law QuillParts, over numbers and lists alone. Conditions: those that the printed statement names (each number is of its kind). -/
import Derived.Test.YtdojgjbiilnjpaaDQuillParts
import Derived.Test.YtdojgjbiilnjpaaMquilmath
set_option linter.unusedVariables false
set_option linter.unusedSimpArgs false
namespace Go.Proofs.Ytdojgjbiilnjpaa.PQuillParts
open Go.RowKit Go.Proofs.YtdojgjbiilnjpaaW.PrintWords Go.Proofs.YtdojgjbiilnjpaaW.PrintLast Go.Proofs.YtdojgjbiilnjpaaW.PrintMore Go.Proofs.Ytdojgjbiilnjpaa.M

theorem same_l0 (L M : List Int) (hlm : L.length = M.length) (hb : L.length ≤ 1000000) : ∀ (j k i : Nat), L.length - i = j → i ≤ L.length → j < k → arrearsref01_Same.l0 k L M (L.length : Int) (i : Int) = some (decide (L.drop i = M.drop i)) := by
  intro j
  induction j with
  | zero =>
    intro k i hj hi hk
    obtain ⟨k, rfl⟩ : ∃ q, k = q + 1 := ⟨k - 1, by omega⟩
    unfold arrearsref01_Same.l0
    rw [if_neg (by omega), List.drop_of_length_le (by omega), List.drop_of_length_le (by omega)]
    simp
  | succ j ih =>
    intro k i hj hi hk
    obtain ⟨k, rfl⟩ : ∃ q, k = q + 1 := ⟨k - 1, by omega⟩
    have hil : i < L.length := by omega
    have him : i < M.length := by omega
    have e1 : rd L (i : Int) = L[i] := by simp [rd, List.getD, List.getElem?_eq_getElem hil]
    have e2 : rd M (i : Int) = M[i] := by simp [rd, List.getD, List.getElem?_eq_getElem him]
    have d1 : L.drop i = L[i] :: L.drop (i + 1) := List.drop_eq_getElem_cons hil
    have d2 : M.drop i = M[i] :: M.drop (i + 1) := List.drop_eq_getElem_cons him
    unfold arrearsref01_Same.l0
    rw [if_pos (by omega), if_pos (by omega), if_pos (by omega), if_pos (by omega), e1, e2, d1, d2]
    by_cases c : L[i] = M[i]
    · rw [if_pos c, show wrap64 ((i : Int) + 1) = ((i + 1 : Nat) : Int) by unfold wrap64; omega, ih k (i + 1) (by omega) (by omega) (by omega)]
      congr 1
      exact decide_eq_decide.2 ⟨fun e => by rw [c, e], fun e => (List.cons.inj e).2⟩
    · rw [if_neg c]
      congr 1
      symm
      exact decide_eq_false (fun e => c (List.cons.inj e).1)
theorem same_eq (L M : List Int) (hb : L.length ≤ 1000000) (k : Nat) (hk : L.length < k) : arrearsref01_Same.f k L M = some (decide (L = M)) := by
  unfold arrearsref01_Same.f
  by_cases c : (L.length : Int) = (M.length : Int)
  · rw [if_pos c]
    have := same_l0 L M (by omega) hb L.length k 0 (by omega) (by omega) hk
    simpa using this
  · rw [if_neg c]
    have : L ≠ M := fun e => c (by rw [e])
    simp [this]

/-- A value of the law's argument. -/
def VOk (v : S40) : Prop := (0 ≤ v.f0 ∧ v.f0 ≤ 255) ∧ (0 ≤ v.f1 ∧ v.f1 ≤ 18446744073709551615) ∧ (-9223372036854775808 ≤ v.f2 ∧ v.f2 ≤ 9223372036854775807) ∧ (v.f3.size ≤ 9223372036854775807) ∧ (0 ≤ v.f4 ∧ v.f4 ≤ 18446744073709551615)
/-- .. cut short. -/
def VFew (v : S40) : Prop := (0 ≤ v.f0 ∧ v.f0 ≤ 255) ∧ (0 ≤ v.f1 ∧ v.f1 ≤ 18446744073709551615) ∧ (-9223372036854775808 ≤ v.f2 ∧ v.f2 ≤ 9223372036854775807) ∧ v.f3.size ≤ 40 ∧ (0 ≤ v.f4 ∧ v.f4 ≤ 18446744073709551615) ∧ (v.f0 % 4 = 3 → v.f4 < 1000)
def fewOne (v : S40) : S40 := ⟨v.f0, v.f1, v.f2, v.f3.extract 0 (min v.f3.size 40), if v.f0 % 4 = 3 then v.f4 % 1000 else v.f4⟩
theorem few_ok {v : S40} (h : VOk v) : VFew (fewOne v) := by
  obtain ⟨h0, h1, h2, h3, h4⟩ := h
  refine ⟨h0, h1, h2, ?_, ?_, ?_⟩
  · show (v.f3.extract 0 (min v.f3.size 40)).size ≤ 40
    rw [ByteArray.size_extract]
    omega
  · show 0 ≤ (if v.f0 % 4 = 3 then v.f4 % 1000 else v.f4) ∧ (if v.f0 % 4 = 3 then v.f4 % 1000 else v.f4) ≤ 18446744073709551615
    split <;> omega
  · intro hk
    show (if v.f0 % 4 = 3 then v.f4 % 1000 else v.f4) < 1000
    have hk' : v.f0 % 4 = 3 := hk
    rw [if_pos hk']
    omega
theorem text_few (s : ByteArray) (hs : s.size ≤ 9223372036854775807) : arrearsref01_Text.f s 40 = some (s.extract 0 (min s.size 40)) := by
  unfold arrearsref01_Text.f
  have hm : mn (s.size : Int) 40 = ((min s.size 40 : Nat) : Int) := by unfold mn; split <;> omega
  rw [hm, if_pos (by omega), if_pos (by omega), Int.toNat_natCast]
theorem few_l0 (L : List S40) (hL : ∀ x ∈ L, VOk x) (hlen : L.length ≤ 2932031007400) : ∀ (j k i : Nat), L.length - i = j → i ≤ L.length → j < k → arrearslaw08_few.l0 k (((L.take i).take 12).map fewOne) L (L.length : Int) (i : Int) = some ((L.take 12).map fewOne) := by
  intro j
  induction j with
  | zero =>
    intro k i hj hi hk
    obtain ⟨k, rfl⟩ : ∃ q, k = q + 1 := ⟨k - 1, by omega⟩
    unfold arrearslaw08_few.l0
    rw [if_neg (by omega), List.take_of_length_le (show L.length ≤ i by omega)]
  | succ j ih =>
    intro k i hj hi hk
    obtain ⟨k, rfl⟩ : ∃ q, k = q + 1 := ⟨k - 1, by omega⟩
    have hil : i < L.length := by omega
    have hw : wrap64 ((i : Int) + 1) = ((i + 1 : Nat) : Int) := by unfold wrap64; omega
    have e1 : rd_T40 L (i : Int) = L[i] := by simp [rd_T40, List.getD, List.getElem?_eq_getElem hil]
    have hv := hL _ (List.getElem_mem hil)
    unfold arrearslaw08_few.l0
    rw [if_pos (by omega), if_pos (by omega), if_pos (by omega), e1, hw]
    by_cases c : (i : Int) < 12
    · rw [if_pos c, text_few _ hv.2.2.2.1]
      simp only [Option.bind_some]
      have hlt : (((L.take i).take 12).map fewOne).length < 2932031007402 := by rw [List.length_map, List.length_take, List.length_take]; omega
      have e : ((L.take i).take 12).map fewOne ++ [fewOne L[i]] = ((L.take (i + 1)).take 12).map fewOne := by
        rw [List.take_take, List.take_take, show min 12 i = i by omega, show min 12 (i + 1) = i + 1 by omega, List.take_succ_eq_append_getElem hil, List.map_append]
        rfl
      have ht : Int.tmod L[i].f0 4 = L[i].f0 % 4 := Int.tmod_eq_emod_of_nonneg hv.1.1
      have ht2 : Int.tmod L[i].f4 1000 = L[i].f4 % 1000 := Int.tmod_eq_emod_of_nonneg hv.2.2.2.2.1
      have hih := ih k (i + 1) (by omega) (by omega) (by omega)
      rw [← e] at hih
      by_cases c3 : Int.tmod L[i].f0 4 = 3
      · rw [if_pos c3, if_pos hlt, ht2]
        rw [show fewOne L[i] = ⟨L[i].f0, L[i].f1, L[i].f2, L[i].f3.extract 0 (min L[i].f3.size 40), L[i].f4 % 1000⟩ by unfold fewOne; rw [if_pos (by omega)]] at hih
        exact hih
      · rw [if_neg c3, if_pos hlt]
        rw [show fewOne L[i] = ⟨L[i].f0, L[i].f1, L[i].f2, L[i].f3.extract 0 (min L[i].f3.size 40), L[i].f4⟩ by unfold fewOne; rw [if_neg (by omega)]] at hih
        exact hih
    · rw [if_neg c]
      have e : (L.take i).take 12 = (L.take (i + 1)).take 12 := by
        rw [List.take_take, List.take_take, show min 12 i = 12 by omega, show min 12 (i + 1) = 12 by omega]
      rw [e]
      exact ih k (i + 1) (by omega) (by omega) (by omega)
theorem few_eq (L : List S40) (hL : ∀ x ∈ L, VOk x) (hlen : L.length ≤ 2932031007400) (k : Nat) (hk : L.length < k) : arrearslaw08_few.f k L = some ((L.take 12).map fewOne) := by
  unfold arrearslaw08_few.f
  have := few_l0 L hL hlen L.length k 0 (by omega) (by omega) hk
  simpa using this
theorem few_all (L : List S40) (hL : ∀ x ∈ L, VOk x) : ∀ x ∈ (L.take 12).map fewOne, VFew x := by
  intro x hx
  obtain ⟨y, hy, rfl⟩ := List.mem_map.1 hx
  exact few_ok (hL y (List.mem_of_mem_take hy))
theorem few_len (L : List S40) : ((L.take 12).map fewOne).length ≤ 12 := by rw [List.length_map, List.length_take]; omega

theorem join_l0 (L : List (List Int)) (hb : L.length ≤ 1000) : ∀ (j k i : Nat) (acc : List Int), L.length - i = j → i ≤ L.length → j < k → acc.length + (L.drop i).flatten.length < 140737488355328 → arrearsref01_Join.l0 k acc L (L.length : Int) (i : Int) = some (acc ++ (L.drop i).flatten) := by
  intro j
  induction j with
  | zero =>
    intro k i acc hj hi hk hl
    obtain ⟨k, rfl⟩ : ∃ q, k = q + 1 := ⟨k - 1, by omega⟩
    unfold arrearsref01_Join.l0
    rw [if_neg (by omega), List.drop_of_length_le (by omega)]
    simp
  | succ j ih =>
    intro k i acc hj hi hk hl
    obtain ⟨k, rfl⟩ : ∃ q, k = q + 1 := ⟨k - 1, by omega⟩
    have hil : i < L.length := by omega
    have e1 : rd_L5 L (i : Int) = L[i] := by simp [rd_L5, List.getD, List.getElem?_eq_getElem hil]
    have d1 : L.drop i = L[i] :: L.drop (i + 1) := List.drop_eq_getElem_cons hil
    rw [d1, List.flatten_cons, List.length_append] at hl
    unfold arrearsref01_Join.l0
    rw [if_pos (by omega), if_pos (by omega), if_pos (by omega), e1, if_pos (by omega), show wrap64 ((i : Int) + 1) = ((i + 1 : Nat) : Int) by unfold wrap64; omega,
      ih k (i + 1) _ (by omega) (by omega) (by omega) (by rw [List.length_append]; omega), d1, List.flatten_cons, List.append_assoc]
theorem join_eq (L : List (List Int)) (hb : L.length ≤ 1000) (k : Nat) (hk : L.length < k) (hl : L.flatten.length < 140737488355328) : arrearsref01_Join.f k L = some L.flatten := by
  unfold arrearsref01_Join.f
  have := join_l0 L hb L.length k 0 [] (by omega) (by omega) hk (by simpa using hl)
  simpa using this

theorem go_some : ∀ (l : List S40) (q : List Int), (∀ x ∈ l, VFew x) → q.length + 49 * l.length ≤ 400000 → ∃ X, arrearslaw08_QuillParts.go l q = some X ∧ X.length ≤ q.length + 49 * l.length := by
  intro l
  induction l with
  | nil => intro q _ _; exact ⟨q, rfl, by simp⟩
  | cons v r ih =>
    intro q hv hq
    obtain ⟨h0, h1, h2, h3, h4, h5⟩ := hv v (List.mem_cons_self ..)
    rw [List.length_cons] at hq
    have hl := qlay_len v.f0 v.f1 v.f2 v.f3 h1 h2 (by omega)
    rw [arrearslaw08_QuillParts.go, if_pos ⟨⟨h0, h1, h2, by omega⟩, by omega⟩]
    obtain ⟨X, hX, hXl⟩ := ih (q ++ qlay v.f0 v.f1 v.f2 v.f3) (fun x hx => hv x (List.mem_cons_of_mem _ hx)) (by rw [List.length_append]; omega)
    refine ⟨X, hX, ?_⟩
    rw [List.length_append] at hXl
    rw [List.length_cons]
    omega
theorem toList_inj {s t : ByteArray} : (s.toList == t.toList) = decide (s = t) := by
  by_cases c : s = t
  · subst c; simp
  · have : s.toList ≠ t.toList := fun e => c (by
      apply ByteArray.ext
      apply Array.ext'
      rw [← toList_data8 s, ← toList_data8 t]
      exact e)
    simp [c, this]
theorem pure_proved : arrearslaw08_QuillParts.Pure := by
  intro l0 l1 a2 a3 h0 h0r h1 h1r h2 h3
  refine ⟨l0.length + l1.length + 1000000, ?_⟩
  have hA : ∀ x ∈ l0, VOk x := h0r
  have hB : ∀ x ∈ l1, VOk x := h1r
  have la := few_len l0
  have lb := few_len l1
  obtain ⟨X, hX, hXl⟩ := go_some ((l0.take 12).map fewOne) [] (few_all l0 hA) (by simp only [List.length_nil]; omega)
  obtain ⟨Y, hY, hYl⟩ := go_some ((l1.take 12).map fewOne) [] (few_all l1 hB) (by simp only [List.length_nil]; omega)
  rw [List.length_nil] at hXl hYl
  unfold arrearslaw08_QuillParts.f
  rw [few_eq l0 hA (by omega) _ (by omega)]
  simp only [Option.bind_some]
  rw [few_eq l1 hB (by omega) _ (by omega)]
  simp only [Option.bind_some]
  rw [text_few a2 (by omega), text_few a3 (by omega)]
  simp only [Option.bind_some]
  rw [hX, hY]
  simp only [Option.bind_some]
  have hs : (a2.extract 0 (min a2.size 40)).size ≤ 40 := by rw [ByteArray.size_extract]; omega
  have ht : (a3.extract 0 (min a3.size 40)).size ≤ 40 := by rw [ByteArray.size_extract]; omega
  generalize a2.extract 0 (min a2.size 40) = s at hs
  generalize a3.extract 0 (min a3.size 40) = t at ht
  rw [if_pos ⟨by omega, by omega, by omega, by omega, by omega, by omega⟩, join_eq [X, Y] (by simp) _ (by simp) (by simp; omega)]
  simp only [Option.bind_some, List.flatten_cons, List.flatten_nil, List.append_nil]
  rw [same_eq _ _ (by rw [List.length_append]; omega) _ (by rw [List.length_append]; omega)]
  simp only [Option.bind_some, decide_true, if_true, List.nil_append]
  have hn := nsz_le s.size (by omega)
  rw [same_eq _ _ (by rw [List.length_append, nlay_len, bytesOf_length]; omega) _ (by rw [List.length_append, nlay_len, bytesOf_length]; omega)]
  simp only [Option.bind_some, Option.some.injEq]
  rw [toList_inj]
  by_cases c : s = t
  · subst c; simp
  · have : ¬ (nlay s.size 0 ++ bytesOf s = nlay t.size 0 ++ bytesOf t) := fun e => c (ptext_inj (by omega) (by omega) e)
    rw [decide_eq_false c, decide_eq_false this]
    rfl

end Go.Proofs.Ytdojgjbiilnjpaa.PQuillParts
