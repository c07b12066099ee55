/- The pure statement behind the law LateOwes, over numbers and lists alone. Conditions: those that the printed statement names (each number is of its kind). -/
import Derived.Test.YtjidjobennlfjaaDLateOwes
set_option linter.unusedVariables false
set_option linter.unusedSimpArgs false
namespace Go.Proofs.Ytjidjobennlfjaa.PLateOwes
open Go.RowKit Go.Proofs.YtjidjobennlfjaaW.PrintWords Go.Proofs.YtjidjobennlfjaaW.PrintLast Go.Proofs.YtjidjobennlfjaaW.PrintMore

theorem awake_yes : arrearslaw12_awake.f = some true := by decide +kernel
theorem split_first (paid : Int) (l : List S32) : (∃ k : Nat, k < l.length ∧ (∀ j : Nat, j < k → (rd_T32 l (j : Int)).f1 ≤ paid) ∧ paid < (rd_T32 l (k : Int)).f1) ∨ (∀ j : Nat, j < l.length → (rd_T32 l (j : Int)).f1 ≤ paid) := by
  have h : ∀ n : Nat, n ≤ l.length → (∃ k : Nat, k < n ∧ (∀ j : Nat, j < k → (rd_T32 l (j : Int)).f1 ≤ paid) ∧ paid < (rd_T32 l (k : Int)).f1) ∨ (∀ j : Nat, j < n → (rd_T32 l (j : Int)).f1 ≤ paid) := by
    intro n
    induction n with
    | zero => intro _; exact .inr fun j hj => absurd hj (by omega)
    | succ n ih =>
      intro hn
      rcases ih (by omega) with ⟨k, h1, h2, h3⟩ | h
      · exact .inl ⟨k, by omega, h2, h3⟩
      · by_cases hv : paid < (rd_T32 l (n : Int)).f1
        · exact .inl ⟨n, by omega, h, hv⟩
        · refine .inr fun j hj => ?_
          by_cases e : j = n
          · subst e; omega
          · exact h j (by omega)
  exact h l.length (Nat.le_refl _)
theorem oldest_some {paid : Int} {l : List S32} {k : Nat} (hk : k < l.length) (h : ∀ j : Nat, j < k → (rd_T32 l (j : Int)).f1 ≤ paid) (hv : paid < (rd_T32 l (k : Int)).f1) : late_Oldest.f l paid = some ((k : Int), true) := by
  unfold late_Oldest.f
  rw [firstOver_at paid l k hk h hv]
theorem oldest_none {paid : Int} {l : List S32} (h : ∀ j : Nat, j < l.length → (rd_T32 l (j : Int)).f1 ≤ paid) : late_Oldest.f l paid = some (0, false) := by
  unfold late_Oldest.f
  rw [firstOver_end paid l h]
/-- Each element is of its kinds. -/
def Fits (l : List S32) : Prop := ∀ x ∈ l, (-2147483648 ≤ x.f0 ∧ x.f0 ≤ 2147483647) ∧ (-9223372036854775808 ≤ x.f1 ∧ x.f1 ≤ 9223372036854775807)
theorem fits_at {l : List S32} (h : Fits l) (k : Nat) (hk : k < l.length) : (-2147483648 ≤ (rd_T32 l (k : Int)).f0 ∧ (rd_T32 l (k : Int)).f0 ≤ 2147483647) ∧ (-9223372036854775808 ≤ (rd_T32 l (k : Int)).f1 ∧ (rd_T32 l (k : Int)).f1 ≤ 9223372036854775807) := by
  have e : rd_T32 l (k : Int) = l[k] := by simp [rd_T32, List.getD_eq_getElem?_getD, List.getElem?_eq_getElem hk]
  rw [e]
  exact h _ (List.getElem_mem hk)
theorem since_some {paid today : Int} {l : List S32} {k : Nat} (hf : Fits l) (ht : -2147483648 ≤ today ∧ today ≤ 2147483647) (hk : k < l.length) (h : ∀ j : Nat, j < k → (rd_T32 l (j : Int)).f1 ≤ paid) (hv : paid < (rd_T32 l (k : Int)).f1) :
    late_Since.f l paid today = some (mx (today - (rd_T32 l (k : Int)).f0) 0) := by
  unfold late_Since.f
  have hb := fits_at hf k hk
  rw [oldest_some hk h hv]
  simp only [Option.bind_some, if_true]
  rw [if_pos (by omega), if_pos (by omega)]
  have w1 : wrap64 today = today := by unfold wrap64; omega
  have w2 : wrap64 (rd_T32 l (k : Int)).f0 = (rd_T32 l (k : Int)).f0 := by unfold wrap64; omega
  have w3 : wrap64 (today - (rd_T32 l (k : Int)).f0) = today - (rd_T32 l (k : Int)).f0 := by unfold wrap64; omega
  rw [w1, w2, w3]
theorem since_none {paid today : Int} {l : List S32} (h : ∀ j : Nat, j < l.length → (rd_T32 l (j : Int)).f1 ≤ paid) : late_Since.f l paid today = some 0 := by
  unfold late_Since.f
  rw [oldest_none h]
  rfl

def cv (d : S32) : S48 := ⟨d.f0, d.f1⟩
theorem rd_cv (y : List S32) (i : Nat) (hi : i < y.length) : rd_T48 (y.map cv) (i : Int) = cv (rd_T32 y (i : Int)) := by
  simp [rd_T48, rd_T32, List.getD_eq_getElem?_getD, List.getElem?_eq_getElem hi]
theorem rd_cv0 (y : List S32) (i : Nat) (hi : i < y.length) : (rd_T48 (y.map cv) (i : Int)).f0 = (rd_T32 y (i : Int)).f0 := by rw [rd_cv y i hi]; rfl
theorem rd_cv1 (y : List S32) (i : Nat) (hi : i < y.length) : (rd_T48 (y.map cv) (i : Int)).f1 = (rd_T32 y (i : Int)).f1 := by rw [rd_cv y i hi]; rfl
theorem few_l0 (y : List S32) (hf : Fits y) (hl : y.length ≤ 60) : ∀ (d k i : Nat) (acc : List S48), i + d = y.length → acc.length = i → d < k → arrearslaw12_few.l0 k y acc y (y.length : Int) (i : Int) = some (y, acc ++ (y.drop i).map cv) := by
  intro d
  induction d with
  | zero =>
    intro k i acc hi ha hk
    obtain ⟨k, rfl⟩ : ∃ m, k = m + 1 := ⟨k - 1, by omega⟩
    simp only [arrearslaw12_few.l0]
    rw [if_neg (by omega), List.drop_of_length_le (by omega)]
    simp
  | succ d ih =>
    intro k i acc hi ha hk
    obtain ⟨k, rfl⟩ : ∃ m, k = m + 1 := ⟨k - 1, by omega⟩
    have hlt : i < y.length := by omega
    have hb := fits_at hf i hlt
    simp only [arrearslaw12_few.l0]
    rw [if_pos (by omega), if_pos (by omega), if_pos (by omega), if_pos (by omega)]
    have w1 : wrap64 ((i : Int) + 1) = ((i + 1 : Nat) : Int) := by unfold wrap64; omega
    have w2 : wrap64 (rd_T32 y (i : Int)).f0 = (rd_T32 y (i : Int)).f0 := by unfold wrap64; omega
    rw [w1, w2, ih k (i + 1) _ (by omega) (by simp; omega) (by omega), List.drop_eq_getElem_cons hlt]
    have e : rd_T32 y (i : Int) = y[i] := by simp [rd_T32, List.getD_eq_getElem?_getD, List.getElem?_eq_getElem hlt]
    rw [e]
    simp only [List.map_cons, List.append_assoc, List.singleton_append]
    rfl
theorem few_eq (l : List S32) (hf : Fits l) (hl : l.length * 16 ≤ 140737488351232) (k : Nat) (hk : 60 < k) : arrearslaw12_few.f k l = some (l.take 60, (l.take 60).map cv) := by
  unfold arrearslaw12_few.f
  simp only [Option.bind_some, List.nil_append, List.length_nil, Nat.zero_add]
  have hm : (mn (l.length : Int) 60).toNat = min l.length 60 := by unfold mn; split <;> omega
  have hm0 : 0 ≤ mn (l.length : Int) 60 := by unfold mn; split <;> omega
  have hm1 : mn (l.length : Int) 60 ≤ (l.length : Int) := by unfold mn; split <;> omega
  rw [if_pos hm0, if_pos hm1, hm]
  have ht : l.take (min l.length 60) = l.take 60 := by
    rw [Nat.min_comm, ← List.take_eq_take_min]
  rw [ht]
  have hlen : (l.take 60).length ≤ 60 := List.length_take_le _ _
  rw [if_pos (by omega)]
  have := few_l0 (l.take 60) (fun x hx => hf x (List.mem_of_mem_take hx)) hlen (l.take 60).length k 0 [] (by omega) rfl (by omega)
  simpa using this

def bh (paid today : Int) : List S32 → Int → Int
  | [], acc => acc
  | d :: r, acc => bh paid today r (if d.f0 ≥ today ∨ d.f1 ≤ paid then acc else mx acc (d.f1 - paid))
theorem mx_ge (a b : Int) : a ≤ mx a b ∧ b ≤ mx a b := by unfold mx; split <;> omega
theorem mx_le {a b m : Int} (h1 : a ≤ m) (h2 : b ≤ m) : mx a b ≤ m := by unfold mx; split <;> omega
theorem bh_ge (paid today : Int) (l : List S32) : ∀ acc, acc ≤ bh paid today l acc := by
  induction l with
  | nil => intro acc; exact Int.le_refl _
  | cons d r ih =>
    intro acc
    simp only [bh]
    refine Int.le_trans ?_ (ih _)
    split
    · exact Int.le_refl _
    · exact (mx_ge _ _).1
theorem bh_mono (paid paid2 today : Int) (hp : paid ≤ paid2) (l : List S32) : ∀ acc acc2, acc2 ≤ acc → bh paid2 today l acc2 ≤ bh paid today l acc := by
  induction l with
  | nil => intro acc acc2 h; exact h
  | cons d r ih =>
    intro acc acc2 h
    simp only [bh]
    refine ih _ _ ?_
    have m1 := mx_ge acc (d.f1 - paid)
    by_cases c2 : d.f0 ≥ today ∨ d.f1 ≤ paid2
    · rw [if_pos c2]
      split <;> omega
    · rw [if_neg c2, if_neg (by omega)]
      exact mx_le (by omega) (by omega)
theorem bh_above (paid today : Int) (l : List S32) : ∀ acc, 0 ≤ acc → ∀ d ∈ l, d.f0 < today → d.f1 - paid ≤ bh paid today l acc := by
  induction l with
  | nil => intro acc _ d hd; cases hd
  | cons e r ih =>
    intro acc h0 d hd ht
    simp only [bh]
    have m1 := mx_ge acc (e.f1 - paid)
    rcases List.mem_cons.1 hd with rfl | hd
    · have := bh_ge paid today r (if d.f0 ≥ today ∨ d.f1 ≤ paid then acc else mx acc (d.f1 - paid))
      refine Int.le_trans ?_ this
      split <;> omega
    · refine ih _ ?_ d hd ht
      split <;> omega
theorem bh_zero (paid today : Int) (l : List S32) : ∀ acc, (∀ d ∈ l, d.f0 ≥ today ∨ d.f1 ≤ paid) → bh paid today l acc = acc := by
  induction l with
  | nil => intro acc _; rfl
  | cons e r ih =>
    intro acc h
    simp only [bh]
    rw [if_pos (h e List.mem_cons_self)]
    exact ih acc fun d hd => h d (List.mem_cons_of_mem _ hd)
theorem bh_le (paid today M : Int) (hp : 0 ≤ paid) (l : List S32) : ∀ acc, acc ≤ M → (∀ d ∈ l, d.f1 ≤ M) → bh paid today l acc ≤ M := by
  induction l with
  | nil => intro acc h _; exact h
  | cons e r ih =>
    intro acc h hl
    simp only [bh]
    have h1 := hl e List.mem_cons_self
    refine ih _ ?_ fun d hd => hl d (List.mem_cons_of_mem _ hd)
    split
    · exact h
    · exact mx_le h (by omega)
theorem bh_le1 (paid today B : Int) (l : List S32) : ∀ acc, acc ≤ B → (∀ d ∈ l, d.f1 - paid ≤ B) → bh paid today l acc ≤ B := by
  induction l with
  | nil => intro acc h _; exact h
  | cons e r ih =>
    intro acc h hl
    simp only [bh]
    have h1 := hl e List.mem_cons_self
    refine ih _ ?_ fun d hd => hl d (List.mem_cons_of_mem _ hd)
    split
    · exact h
    · exact mx_le h h1
theorem bh_le2 (paid today : Int) (hp : 0 ≤ paid) (hq : paid ≤ 9223372036854775807) (l : List S32) (h : ∀ d ∈ l, d.f1 ≤ 9223372036854775807) : bh paid today l 0 ≤ 9223372036854775807 - paid :=
  bh_le1 paid today _ l 0 (by omega) fun d hd => by have := h d hd; omega
theorem sub_ok (a b : Int) (ha : 0 ≤ a) (hb : 0 ≤ b) (ha' : a ≤ 9223372036854775807) (hb' : b ≤ 9223372036854775807) : coin_Coin_Sub.f a b = some (a - b, none) := by
  unfold coin_Coin_Sub.f coin_Coin_Add.f
  have w1 : wrap64 (-b) = -b := by unfold wrap64; omega
  have w2 : wrap64 (a + -b) = a - b := by unfold wrap64; omega
  rw [if_neg (by omega), w1, w2, if_neg (by omega)]
  by_cases h : -b < 0
  · rw [if_pos h, if_neg (by omega)]; rfl
  · rw [if_neg h]; rfl
theorem at_el (y : List S32) (i : Nat) (hi : i < y.length) : y[i] = rd_T32 y (i : Int) := by simp [rd_T32, List.getD_eq_getElem?_getD, List.getElem?_eq_getElem hi]
/-- Nothing below 0. -/
def Above (y : List S32) : Prop := ∀ j : Nat, j < y.length → 0 ≤ (rd_T32 y (j : Int)).f1
theorem behind_l0 (y : List S32) (hf : Fits y) (hl : y.length ≤ 60) (hy : Above y) (paid today : Int) (hp : 0 ≤ paid ∧ paid ≤ 9223372036854775807) :
    ∀ (d k i : Nat) (acc : Int), i + d = y.length → 2 * d < k → late_Behind.l0 k paid today acc y (y.length : Int) (i : Int) = some (bh paid today (y.drop i) acc) := by
  intro d
  induction d with
  | zero =>
    intro k i acc hi hk
    obtain ⟨k, rfl⟩ : ∃ m, k = m + 1 := ⟨k - 1, by omega⟩
    simp only [late_Behind.l0]
    rw [if_neg (by omega), List.drop_of_length_le (by omega)]
    rfl
  | succ d ih =>
    intro k i acc hi hk
    obtain ⟨k, rfl⟩ : ∃ m, k = m + 2 := ⟨k - 2, by omega⟩
    have hlt : i < y.length := by omega
    have hb := fits_at hf i hlt
    have hn := hy i hlt
    have w1 : wrap64 ((i : Int) + 1) = ((i + 1 : Nat) : Int) := by unfold wrap64; omega
    rw [List.drop_eq_getElem_cons hlt, at_el y i hlt]
    simp only [late_Behind.l0, late_Behind.j1, bh]
    rw [if_pos (by omega), if_pos (by omega), if_pos (by omega), w1]
    by_cases c1 : (rd_T32 y (i : Int)).f0 ≥ today
    · rw [if_pos c1, if_pos (Or.inl c1)]
      exact ih k (i + 1) acc (by omega) (by omega)
    · rw [if_neg c1]
      by_cases c2 : (rd_T32 y (i : Int)).f1 ≤ paid
      · rw [if_pos (by simpa using c2), if_pos (Or.inr c2)]
        exact ih k (i + 1) acc (by omega) (by omega)
      · rw [if_neg (by simpa using c2), if_neg (by omega), sub_ok _ _ hn hp.1 hb.2.2 hp.2]
        simp only [Option.bind_some, Option.isNone_none, if_true]
        exact ih k (i + 1) _ (by omega) (by omega)
theorem behind_eq (y : List S32) (hf : Fits y) (hl : y.length ≤ 60) (hy : Above y) (paid today : Int) (hp : 0 ≤ paid ∧ paid ≤ 9223372036854775807) (k : Nat) (hk : 120 < k) : late_Behind.f k y paid today = some (bh paid today y 0) := by
  have := behind_l0 y hf hl hy paid today hp y.length k 0 0 (by omega) (by omega)
  simpa [late_Behind.f] using this
theorem refbehind_l0 (y : List S32) (hf : Fits y) (hl : y.length ≤ 60) (hy : Above y) (paid today : Int) (hp : 0 ≤ paid ∧ paid ≤ 9223372036854775807) :
    ∀ (d k i : Nat) (acc : Int), i + d = y.length → d < k → 0 ≤ acc → arrearsref12_Behind.l0 k paid today acc (y.map cv) (y.length : Int) (i : Int) = some (bh paid today (y.drop i) acc) := by
  intro d
  induction d with
  | zero =>
    intro k i acc hi hk _
    obtain ⟨k, rfl⟩ : ∃ m, k = m + 1 := ⟨k - 1, by omega⟩
    simp only [arrearsref12_Behind.l0]
    rw [if_neg (by omega), List.drop_of_length_le (by omega)]
    rfl
  | succ d ih =>
    intro k i acc hi hk h0
    obtain ⟨k, rfl⟩ : ∃ m, k = m + 1 := ⟨k - 1, by omega⟩
    have hlt : i < y.length := by omega
    have hb := fits_at hf i hlt
    have hn := hy i hlt
    have w1 : wrap64 ((i : Int) + 1) = ((i + 1 : Nat) : Int) := by unfold wrap64; omega
    have w2 : wrap64 ((rd_T32 y (i : Int)).f1 - paid) = (rd_T32 y (i : Int)).f1 - paid := by unfold wrap64; omega
    rw [List.drop_eq_getElem_cons hlt, at_el y i hlt]
    simp only [arrearsref12_Behind.l0, bh]
    rw [if_pos (by omega), if_pos (by omega), if_pos (by simp; omega), w1, rd_cv0 y i hlt, rd_cv1 y i hlt, w2]
    by_cases c1 : (rd_T32 y (i : Int)).f0 < today
    · rw [if_pos c1]
      by_cases c2 : (rd_T32 y (i : Int)).f1 - paid > acc
      · rw [if_pos c2, if_neg (by omega)]
        have e : mx acc ((rd_T32 y (i : Int)).f1 - paid) = (rd_T32 y (i : Int)).f1 - paid := by unfold mx; split <;> omega
        rw [e]
        exact ih k (i + 1) _ (by omega) (by omega) (by omega)
      · rw [if_neg c2]
        have e : (if (rd_T32 y (i : Int)).f0 ≥ today ∨ (rd_T32 y (i : Int)).f1 ≤ paid then acc else mx acc ((rd_T32 y (i : Int)).f1 - paid)) = acc := by
          split
          · rfl
          · unfold mx; split <;> omega
        rw [e]
        exact ih k (i + 1) _ (by omega) (by omega) h0
    · rw [if_neg c1, if_pos (by omega)]
      exact ih k (i + 1) _ (by omega) (by omega) h0
theorem l1_ok (y : List S32) (hf : Fits y) (hl : y.length ≤ 60) (paid today n : Int) (hend : ∀ k, 120 < k → ((late_Behind.f k y (wrap64 (paid + n)) today).bind fun t148 => (some (t148 == 0))) = some true) :
    ∀ (d k i : Nat) (b : Bool), i + d = y.length → d + 130 < k → ((n == 0) == (b && (y.drop i).all fun e => decide (e.f0 ≥ today ∨ e.f1 ≤ paid))) = true →
      arrearslaw12_LateOwes.l1 k y paid today n b y (y.length : Int) (i : Int) = some true := by
  intro d
  induction d with
  | zero =>
    intro k i b hi hk hb
    obtain ⟨k, rfl⟩ : ∃ m, k = m + 1 := ⟨k - 1, by omega⟩
    rw [List.drop_of_length_le (by omega)] at hb
    simp only [List.all_nil, Bool.and_true] at hb
    simp only [arrearslaw12_LateOwes.l1]
    rw [if_neg (by omega), if_pos hb]
    exact hend k (by omega)
  | succ d ih =>
    intro k i b hi hk hb
    obtain ⟨k, rfl⟩ : ∃ m, k = m + 1 := ⟨k - 1, by omega⟩
    have hlt : i < y.length := by omega
    have w1 : wrap64 ((i : Int) + 1) = ((i + 1 : Nat) : Int) := by unfold wrap64; omega
    rw [List.drop_eq_getElem_cons hlt, at_el y i hlt] at hb
    simp only [arrearslaw12_LateOwes.l1]
    rw [if_pos (by omega), if_pos (by omega), if_pos (by omega), w1]
    cases b with
    | false =>
      simp only [Bool.false_eq_true, if_false]
      refine ih k (i + 1) false (by omega) (by omega) ?_
      simpa using hb
    | true =>
      simp only [if_true]
      by_cases c1 : (rd_T32 y (i : Int)).f0 ≥ today
      · rw [if_pos c1]
        refine ih k (i + 1) true (by omega) (by omega) ?_
        rw [List.all_cons, decide_eq_true (Or.inl c1)] at hb
        simpa using hb
      · rw [if_neg c1]
        refine ih k (i + 1) _ (by omega) (by omega) ?_
        rw [List.all_cons] at hb
        have e : decide ((rd_T32 y (i : Int)).f0 ≥ today ∨ (rd_T32 y (i : Int)).f1 ≤ paid) = decide ((rd_T32 y (i : Int)).f1 ≤ paid) := by
          rw [decide_eq_decide]; omega
        rw [e] at hb
        simpa using hb
theorem mem_at {y : List S32} {d : S32} (h : d ∈ y) : ∃ j : Nat, j < y.length ∧ d = rd_T32 y (j : Int) := by
  obtain ⟨j, hj, e⟩ := List.getElem_of_mem h
  exact ⟨j, hj, by rw [← e, at_el y j hj]⟩
theorem j1_ok (y : List S32) (hf : Fits y) (hl : y.length ≤ 60) (hy : Above y) (paid more today : Int) (ht : -2147483648 ≤ today ∧ today ≤ 2147483647) (b : Bool) (hb : b = true ∨ (0 ≤ paid ∧ 0 ≤ more ∧ more ≤ 1000000000000 ∧ paid ≤ 1000000000000000)) (k : Nat) (hk : 300 < k) :
    arrearslaw12_LateOwes.j1 k y paid more today (y.map cv) b = some true := by
  obtain ⟨k, rfl⟩ : ∃ m, k = m + 2 := ⟨k - 2, by omega⟩
  simp only [arrearslaw12_LateOwes.j1]
  cases b with
  | true => rfl
  | false =>
    obtain ⟨h1, h2, h3, h4⟩ := hb.resolve_left (by decide)
    simp only [Bool.false_eq_true, if_false]
    have w1 : wrap64 (paid + more) = paid + more := by unfold wrap64; omega
    have w2 : wrap64 today = today := by unfold wrap64; omega
    rw [w1, w2, behind_eq y hf hl hy paid today ⟨h1, by omega⟩ _ (by omega), behind_eq y hf hl hy (paid + more) today ⟨by omega, by omega⟩ _ (by omega)]
    have hr := refbehind_l0 y hf hl hy paid today ⟨h1, by omega⟩ y.length (k + 1) 0 0 (by omega) (by omega) (by omega)
    unfold arrearsref12_Behind.f
    rw [List.length_map]
    simp only [Int.natCast_zero, List.drop_zero] at hr
    simp only [Option.bind_some]
    rw [hr]
    simp only [Option.bind_some, if_true]
    have hm := bh_mono paid (paid + more) today (by omega) y 0 0 (Int.le_refl _)
    have hn0 := bh_ge paid today y 0
    have hnM := bh_le paid today 9223372036854775807 h1 y 0 (by omega) (fun d hd => by
      obtain ⟨j, hj, rfl⟩ := mem_at hd
      exact (fits_at hf j hj).2.2)
    have hab := bh_above paid today y 0 (Int.le_refl _)
    have hz := bh_zero paid today y 0
    generalize hn : bh paid today y 0 = n at hm hn0 hnM hab hz
    have hd : decide (bh (paid + more) today y 0 > n) = false := by simpa using hm
    rw [hd]
    simp only [arrearslaw12_LateOwes.j2, Bool.false_eq_true, if_false]
    have hall : ((n == 0) == (true && (y.drop 0).all fun e => decide (e.f0 ≥ today ∨ e.f1 ≤ paid))) = true := by
      rw [List.drop_zero, Bool.true_and, beq_iff_eq]
      by_cases c : ∀ d ∈ y, d.f0 ≥ today ∨ d.f1 ≤ paid
      · rw [hz c]
        symm
        rw [show ((0 : Int) == 0) = true from rfl, List.all_eq_true]
        intro d hd
        exact decide_eq_true (c d hd)
      · have c' : ∃ d, d ∈ y ∧ ¬ (d.f0 ≥ today ∨ d.f1 ≤ paid) := by
          apply Classical.byContradiction
          intro hc
          exact c fun d hd => Classical.byContradiction fun hq => hc ⟨d, hd, hq⟩
        obtain ⟨d, hd, hq⟩ := c'
        have h5 := hab d hd (by omega)
        rw [show (n == 0) = false from beq_eq_false_iff_ne.2 (by omega)]
        symm
        rw [List.all_eq_false]
        exact ⟨d, hd, by simpa using hq⟩
    have hend : ∀ k, 120 < k → ((late_Behind.f k y (wrap64 (paid + n)) today).bind fun t148 => (some (t148 == 0))) = some true := by
      intro k hk
      by_cases c : paid + n ≤ 9223372036854775807
      · have w3 : wrap64 (paid + n) = paid + n := by unfold wrap64; omega
        rw [w3, behind_eq y hf hl hy (paid + n) today ⟨by omega, c⟩ k hk, bh_zero]
        · rfl
        · intro d hd
          by_cases c2 : d.f0 ≥ today
          · exact .inl c2
          · have := hab d hd (by omega)
            exact .inr (by omega)
      · exfalso
        have : n ≤ 9223372036854775807 - paid := by
          rw [← hn]
          refine bh_le2 paid today h1 (by omega) y ?_
          intro d hd
          obtain ⟨j, hj, rfl⟩ := mem_at hd
          exact (fits_at hf j hj).2.2
        omega
    have := l1_ok y hf hl paid today n hend y.length k 0 true (by omega) (by omega) hall
    simpa using this
theorem l0_ok (y : List S32) (hf : Fits y) (hl : y.length ≤ 60) (paid more today : Int) (ht : -2147483648 ≤ today ∧ today ≤ 2147483647) :
    ∀ (d k i : Nat), i + d = y.length → d + 310 < k → (∀ j : Nat, j < i → 0 ≤ (rd_T32 y (j : Int)).f1) → arrearslaw12_LateOwes.l0 k y paid more today (y.map cv) y (y.length : Int) (i : Int) = some true := by
  intro d
  induction d with
  | zero =>
    intro k i hi hk hn
    obtain ⟨k, rfl⟩ : ∃ m, k = m + 1 := ⟨k - 1, by omega⟩
    have hy : Above y := fun j hj => hn j (by omega)
    simp only [arrearslaw12_LateOwes.l0]
    rw [if_neg (by omega)]
    by_cases c1 : paid < 0
    · rw [if_pos c1]; exact j1_ok y hf hl hy paid more today ht true (.inl rfl) k (by omega)
    rw [if_neg c1]
    by_cases c2 : more < 0
    · rw [if_pos c2]; exact j1_ok y hf hl hy paid more today ht true (.inl rfl) k (by omega)
    rw [if_neg c2]
    by_cases c3 : more > 1000000000000
    · rw [if_pos c3]; exact j1_ok y hf hl hy paid more today ht true (.inl rfl) k (by omega)
    rw [if_neg c3]
    refine j1_ok y hf hl hy paid more today ht _ ?_ k (by omega)
    by_cases c4 : paid > 1000000000000000
    · exact .inl (decide_eq_true c4)
    · exact .inr ⟨by omega, by omega, by omega, by omega⟩
  | succ d ih =>
    intro k i hi hk hn
    obtain ⟨k, rfl⟩ : ∃ m, k = m + 1 := ⟨k - 1, by omega⟩
    have w1 : wrap64 ((i : Int) + 1) = ((i + 1 : Nat) : Int) := by unfold wrap64; omega
    simp only [arrearslaw12_LateOwes.l0]
    rw [if_pos (by omega), if_pos (by omega), if_pos (by omega), w1]
    by_cases c : (rd_T32 y (i : Int)).f1 < 0
    · rw [if_pos c]
    · rw [if_neg c]
      refine ih k (i + 1) (by omega) (by omega) fun j hj => ?_
      by_cases e : j = i
      · subst e; omega
      · exact hn j (by omega)
theorem pure_proved : arrearslaw12_LateOwes.Pure := by
  intro l paid more today hl hf hp hm ht
  refine ⟨400, ?_⟩
  unfold arrearslaw12_LateOwes.f
  rw [awake_yes]
  simp only [Option.bind_some, if_true]
  rw [few_eq l hf hl 400 (by omega)]
  simp only [Option.bind_some]
  have hf' : Fits (l.take 60) := fun x hx => hf x (List.mem_of_mem_take hx)
  have hlen : (l.take 60).length ≤ 60 := List.length_take_le _ _
  generalize l.take 60 = y at hf' hlen
  have := l0_ok y hf' hlen paid more today ht y.length 400 0 (by omega) (by omega) (fun j hj => absurd hj (by omega))
  simpa using this

end Go.Proofs.Ytjidjobennlfjaa.PLateOwes
