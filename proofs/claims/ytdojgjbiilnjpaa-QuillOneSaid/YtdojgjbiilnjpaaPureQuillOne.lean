/- The pure statement behind the law QuillOne, over numbers and lists alone. Conditions: those that the printed statement names (each number is of its kind). -/
import Derived.Test.YtdojgjbiilnjpaaDQuillOne
import Derived.Test.YtdojgjbiilnjpaaMquilmath
set_option linter.unusedVariables false
set_option linter.unusedSimpArgs false
namespace Go.Proofs.Ytdojgjbiilnjpaa.PQuillOne
open Go.RowKit Go.Proofs.YtdojgjbiilnjpaaW.PrintWords Go.Proofs.YtdojgjbiilnjpaaW.PrintLast Go.Proofs.YtdojgjbiilnjpaaW.PrintMore Go.Proofs.Ytdojgjbiilnjpaa.M

theorem same_l0 (L M : List Int) (hlm : L.length = M.length) (hb : L.length ≤ 1000000) : ∀ (j k i : Nat), L.length - i = j → i ≤ L.length → j < k → arrearsref01_Same.l0 k L M (L.length : Int) (i : Int) = some (decide (L.drop i = M.drop i)) := by
  intro j
  induction j with
  | zero =>
    intro k i hj hi hk
    obtain ⟨k, rfl⟩ : ∃ q, k = q + 1 := ⟨k - 1, by omega⟩
    unfold arrearsref01_Same.l0
    rw [if_neg (by omega), List.drop_of_length_le (by omega), List.drop_of_length_le (by omega)]
    simp
  | succ j ih =>
    intro k i hj hi hk
    obtain ⟨k, rfl⟩ : ∃ q, k = q + 1 := ⟨k - 1, by omega⟩
    have hil : i < L.length := by omega
    have him : i < M.length := by omega
    have e1 : rd L (i : Int) = L[i] := by simp [rd, List.getD, List.getElem?_eq_getElem hil]
    have e2 : rd M (i : Int) = M[i] := by simp [rd, List.getD, List.getElem?_eq_getElem him]
    have d1 : L.drop i = L[i] :: L.drop (i + 1) := List.drop_eq_getElem_cons hil
    have d2 : M.drop i = M[i] :: M.drop (i + 1) := List.drop_eq_getElem_cons him
    unfold arrearsref01_Same.l0
    rw [if_pos (by omega), if_pos (by omega), if_pos (by omega), if_pos (by omega), e1, e2, d1, d2]
    by_cases c : L[i] = M[i]
    · rw [if_pos c, show wrap64 ((i : Int) + 1) = ((i + 1 : Nat) : Int) by unfold wrap64; omega, ih k (i + 1) (by omega) (by omega) (by omega)]
      congr 1
      exact decide_eq_decide.2 ⟨fun e => by rw [c, e], fun e => (List.cons.inj e).2⟩
    · rw [if_neg c]
      congr 1
      symm
      exact decide_eq_false (fun e => c (List.cons.inj e).1)
theorem same_eq (L M : List Int) (hb : L.length ≤ 1000000) (k : Nat) (hk : L.length < k) : arrearsref01_Same.f k L M = some (decide (L = M)) := by
  unfold arrearsref01_Same.f
  by_cases c : (L.length : Int) = (M.length : Int)
  · rw [if_pos c]
    have := same_l0 L M (by omega) hb L.length k 0 (by omega) (by omega) hk
    simpa using this
  · rw [if_neg c]
    have : L ≠ M := fun e => c (by rw [e])
    simp [this]

theorem cut_l0 (a : Int) (ha : 0 ≤ a ∧ a ≤ 1000) (L : List Int) (hL : L.length ≤ 140737488351232) : ∀ (j k i : Nat), L.length - i = j → i ≤ L.length → j < k → arrearsref01_Cut.l0 k a ((L.take i).take a.toNat) L (L.length : Int) (i : Int) = some (L.take a.toNat) := by
  intro j
  induction j with
  | zero =>
    intro k i hj hi hk
    obtain ⟨k, rfl⟩ : ∃ q, k = q + 1 := ⟨k - 1, by omega⟩
    unfold arrearsref01_Cut.l0
    rw [if_neg (by omega), List.take_of_length_le (show L.length ≤ i by omega)]
  | succ j ih =>
    intro k i hj hi hk
    obtain ⟨k, rfl⟩ : ∃ q, k = q + 1 := ⟨k - 1, by omega⟩
    have hil : i < L.length := by omega
    have hw : wrap64 ((i : Int) + 1) = ((i + 1 : Nat) : Int) := by unfold wrap64; omega
    unfold arrearsref01_Cut.l0
    rw [if_pos (by omega), if_pos (by omega), if_pos (by omega)]
    have e1 : rd L (i : Int) = L[i] := by simp [rd, List.getD, List.getElem?_eq_getElem hil]
    by_cases c : (i : Int) < a
    · rw [if_pos c, if_pos (by rw [List.length_take, List.length_take]; omega), hw]
      have e : (L.take i).take a.toNat ++ [rd L (i : Int)] = (L.take (i + 1)).take a.toNat := by
        rw [e1, List.take_take, List.take_take, show min a.toNat i = i by omega, show min a.toNat (i + 1) = i + 1 by omega, List.take_succ_eq_append_getElem hil]
      rw [e]
      exact ih k (i + 1) (by omega) (by omega) (by omega)
    · rw [if_neg c, hw]
      have e : (L.take i).take a.toNat = (L.take (i + 1)).take a.toNat := by
        rw [List.take_take, List.take_take, show min a.toNat i = a.toNat by omega, show min a.toNat (i + 1) = a.toNat by omega]
      rw [e]
      exact ih k (i + 1) (by omega) (by omega) (by omega)
theorem cut_eq (a : Int) (ha : 0 ≤ a ∧ a ≤ 1000) (L : List Int) (hL : L.length ≤ 140737488351232) (k : Nat) (hk : L.length < k) : arrearsref01_Cut.f k L a = some (L.take a.toNat) := by
  unfold arrearsref01_Cut.f
  have := cut_l0 a ha L hL L.length k 0 (by omega) (by omega) hk
  simpa using this

/-- A value of the law's argument. -/
def VOk (v : S40) : Prop := (0 ≤ v.f0 ∧ v.f0 ≤ 255) ∧ (0 ≤ v.f1 ∧ v.f1 ≤ 18446744073709551615) ∧ (-9223372036854775808 ≤ v.f2 ∧ v.f2 ≤ 9223372036854775807) ∧ (v.f3.size ≤ 9223372036854775807) ∧ (0 ≤ v.f4 ∧ v.f4 ≤ 18446744073709551615)
/-- .. cut short. -/
def VFew (v : S40) : Prop := (0 ≤ v.f0 ∧ v.f0 ≤ 255) ∧ (0 ≤ v.f1 ∧ v.f1 ≤ 18446744073709551615) ∧ (-9223372036854775808 ≤ v.f2 ∧ v.f2 ≤ 9223372036854775807) ∧ v.f3.size ≤ 40 ∧ (0 ≤ v.f4 ∧ v.f4 ≤ 18446744073709551615) ∧ (v.f0 % 4 = 3 → v.f4 < 1000)
def fewOne (v : S40) : S40 := ⟨v.f0, v.f1, v.f2, v.f3.extract 0 (min v.f3.size 40), if v.f0 % 4 = 3 then v.f4 % 1000 else v.f4⟩
theorem few_ok {v : S40} (h : VOk v) : VFew (fewOne v) := by
  obtain ⟨h0, h1, h2, h3, h4⟩ := h
  refine ⟨h0, h1, h2, ?_, ?_, ?_⟩
  · show (v.f3.extract 0 (min v.f3.size 40)).size ≤ 40
    rw [ByteArray.size_extract]
    omega
  · show 0 ≤ (if v.f0 % 4 = 3 then v.f4 % 1000 else v.f4) ∧ (if v.f0 % 4 = 3 then v.f4 % 1000 else v.f4) ≤ 18446744073709551615
    split <;> omega
  · intro hk
    show (if v.f0 % 4 = 3 then v.f4 % 1000 else v.f4) < 1000
    have hk' : v.f0 % 4 = 3 := hk
    rw [if_pos hk']
    omega
theorem text_few (s : ByteArray) (hs : s.size ≤ 9223372036854775807) : arrearsref01_Text.f s 40 = some (s.extract 0 (min s.size 40)) := by
  unfold arrearsref01_Text.f
  have hm : mn (s.size : Int) 40 = ((min s.size 40 : Nat) : Int) := by unfold mn; split <;> omega
  rw [hm, if_pos (by omega), if_pos (by omega), Int.toNat_natCast]
theorem few_l0 (L : List S40) (hL : ∀ x ∈ L, VOk x) (hlen : L.length ≤ 2932031007400) : ∀ (j k i : Nat), L.length - i = j → i ≤ L.length → j < k → arrearslaw08_few.l0 k (((L.take i).take 12).map fewOne) L (L.length : Int) (i : Int) = some ((L.take 12).map fewOne) := by
  intro j
  induction j with
  | zero =>
    intro k i hj hi hk
    obtain ⟨k, rfl⟩ : ∃ q, k = q + 1 := ⟨k - 1, by omega⟩
    unfold arrearslaw08_few.l0
    rw [if_neg (by omega), List.take_of_length_le (show L.length ≤ i by omega)]
  | succ j ih =>
    intro k i hj hi hk
    obtain ⟨k, rfl⟩ : ∃ q, k = q + 1 := ⟨k - 1, by omega⟩
    have hil : i < L.length := by omega
    have hw : wrap64 ((i : Int) + 1) = ((i + 1 : Nat) : Int) := by unfold wrap64; omega
    have e1 : rd_T40 L (i : Int) = L[i] := by simp [rd_T40, List.getD, List.getElem?_eq_getElem hil]
    have hv := hL _ (List.getElem_mem hil)
    unfold arrearslaw08_few.l0
    rw [if_pos (by omega), if_pos (by omega), if_pos (by omega), e1, hw]
    by_cases c : (i : Int) < 12
    · rw [if_pos c, text_few _ hv.2.2.2.1]
      simp only [Option.bind_some]
      have hlt : (((L.take i).take 12).map fewOne).length < 2932031007402 := by rw [List.length_map, List.length_take, List.length_take]; omega
      have e : ((L.take i).take 12).map fewOne ++ [fewOne L[i]] = ((L.take (i + 1)).take 12).map fewOne := by
        rw [List.take_take, List.take_take, show min 12 i = i by omega, show min 12 (i + 1) = i + 1 by omega, List.take_succ_eq_append_getElem hil, List.map_append]
        rfl
      have ht : Int.tmod L[i].f0 4 = L[i].f0 % 4 := Int.tmod_eq_emod_of_nonneg hv.1.1
      have ht2 : Int.tmod L[i].f4 1000 = L[i].f4 % 1000 := Int.tmod_eq_emod_of_nonneg hv.2.2.2.2.1
      have hih := ih k (i + 1) (by omega) (by omega) (by omega)
      rw [← e] at hih
      by_cases c3 : Int.tmod L[i].f0 4 = 3
      · rw [if_pos c3, if_pos hlt, ht2]
        rw [show fewOne L[i] = ⟨L[i].f0, L[i].f1, L[i].f2, L[i].f3.extract 0 (min L[i].f3.size 40), L[i].f4 % 1000⟩ by unfold fewOne; rw [if_pos (by omega)]] at hih
        exact hih
      · rw [if_neg c3, if_pos hlt]
        rw [show fewOne L[i] = ⟨L[i].f0, L[i].f1, L[i].f2, L[i].f3.extract 0 (min L[i].f3.size 40), L[i].f4⟩ by unfold fewOne; rw [if_neg (by omega)]] at hih
        exact hih
    · rw [if_neg c]
      have e : (L.take i).take 12 = (L.take (i + 1)).take 12 := by
        rw [List.take_take, List.take_take, show min 12 i = 12 by omega, show min 12 (i + 1) = 12 by omega]
      rw [e]
      exact ih k (i + 1) (by omega) (by omega) (by omega)
theorem few_eq (L : List S40) (hL : ∀ x ∈ L, VOk x) (hlen : L.length ≤ 2932031007400) (k : Nat) (hk : L.length < k) : arrearslaw08_few.f k L = some ((L.take 12).map fewOne) := by
  unfold arrearslaw08_few.f
  have := few_l0 L hL hlen L.length k 0 (by omega) (by omega) hk
  simpa using this
theorem few_all (L : List S40) (hL : ∀ x ∈ L, VOk x) : ∀ x ∈ (L.take 12).map fewOne, VFew x := by
  intro x hx
  obtain ⟨y, hy, rfl⟩ := List.mem_map.1 hx
  exact few_ok (hL y (List.mem_of_mem_take hy))
theorem few_len (L : List S40) : ((L.take 12).map fewOne).length ≤ 12 := by rw [List.length_map, List.length_take]; omega

theorem go_ok (p : List Int) (hp : p.length ≤ 60) : ∀ (l : List S40) (st : Option (List Int)) (q : List Int), (∀ x ∈ l, VFew x) → l.length ≤ 12 → (∀ r, st = some r → rng r ∧ q ++ r = p) → q.length + l.length ≤ 72 →
    ∃ ST QQ, arrearslaw08_QuillOne.go l st q = some (ST, QQ) ∧ (∀ r, ST = some r → QQ ++ r = p) ∧ QQ.length ≤ 72 := by
  intro l
  induction l with
  | nil => intro st q _ _ hst hq; exact ⟨st, q, rfl, fun r hr => (hst r hr).2, by simpa using hq⟩
  | cons v r ih =>
    intro st q hv hl hst hq
    have hv0 := hv v (List.mem_cons_self ..)
    rw [List.length_cons] at hl hq
    have hbd := qtake_bd (s := st) (fun l e => ⟨(hst l e).1, by have := congrArg List.length (hst l e).2; rw [List.length_append] at this; omega⟩) v.f0 v.f4
    rw [arrearslaw08_QuillOne.go, if_pos ⟨⟨hv0.1.1, hv0.1.2, hv0.2.2.2.2.1.1, hv0.2.2.2.2.1.2⟩, by omega, hbd.1, hbd.2.1, by omega⟩]
    rcases he : (qtake st v.f0 v.f4).2 with _ | r1
    · rw [qtake_none he]
      refine ih none _ (fun x hx => hv x (List.mem_cons_of_mem _ hx)) (by omega) (fun r e => by cases e) ?_
      rw [List.length_append, qlay_zero]
      omega
    · rcases st with _ | l1
      · rw [qtake_bad] at he; cases he
      · obtain ⟨h1, h2⟩ := hst l1 rfl
        have h3 := qtake_lay h1 he
        have h4 : (q ++ qlay v.f0 (qtake (some l1) v.f0 v.f4).1.1 (qtake (some l1) v.f0 v.f4).1.2.1 (qtake (some l1) v.f0 v.f4).1.2.2) ++ r1 = p := by rw [List.append_assoc, h3.1, h2]
        refine ih (some r1) _ (fun x hx => hv x (List.mem_cons_of_mem _ hx)) (by omega) (fun r e => by injection e with e; subst e; exact ⟨h3.2, h4⟩) ?_
        have := congrArg List.length h4
        rw [List.length_append] at this
        omega
theorem pure_proved : arrearslaw08_QuillOne.Pure := by
  intro l0 l1 h0 h0r h1 h1r
  refine ⟨l0.length + l1.length + 100, ?_⟩
  have hL : ∀ x ∈ l1, VOk x := h1r
  have hp : (l0.take 60).length ≤ 60 := by rw [List.length_take]; omega
  have hpr : rng (l0.take 60) := fun x hx => h0r x (List.mem_of_mem_take hx)
  obtain ⟨ST, QQ, hgo, hst, hql⟩ := go_ok (l0.take 60) hp ((l1.take 12).map fewOne) (some (l0.take 60)) [] (few_all l1 hL) (few_len l1) (fun r e => by injection e with e; subst e; exact ⟨hpr, rfl⟩) (by have := few_len l1; simp only [List.length_nil]; omega)
  unfold arrearslaw08_QuillOne.f
  rw [cut_eq 60 (by omega) l0 (by omega) _ (by omega)]
  simp only [Option.bind_some]
  rw [few_eq l1 hL (by omega) _ (by omega)]
  simp only [Option.bind_some]
  rw [if_pos ⟨by rw [show (60 : Int).toNat = 60 from rfl]; omega, by rw [List.all_eq_true]; exact fun x hx => decide_eq_true (hpr x hx), by have := few_len l1; omega⟩, show (60 : Int).toNat = 60 from rfl, hgo]
  simp only [Option.bind_some]
  rw [if_pos (by omega)]
  split
  · rename_i he
    have hs : ST = some [] := by simpa [lend] using he
    have := hst [] hs
    rw [List.append_nil] at this
    rw [same_eq _ _ (by omega) _ (by omega), this]
    simp
  · rfl

end Go.Proofs.Ytdojgjbiilnjpaa.PQuillOne
