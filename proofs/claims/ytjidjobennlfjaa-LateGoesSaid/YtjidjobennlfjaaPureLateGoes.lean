/- The pure statement behind the law LateGoes, over numbers and lists alone. Conditions: those that the printed statement names (each number is of its kind). -/
import Derived.Test.YtjidjobennlfjaaDLateGoes
set_option linter.unusedVariables false
set_option linter.unusedSimpArgs false
namespace Go.Proofs.Ytjidjobennlfjaa.PLateGoes
open Go.RowKit Go.Proofs.YtjidjobennlfjaaW.PrintWords Go.Proofs.YtjidjobennlfjaaW.PrintLast Go.Proofs.YtjidjobennlfjaaW.PrintMore

theorem awake_yes : arrearslaw12_awake.f = some true := by decide +kernel
theorem split_first (paid : Int) (l : List S32) : (∃ k : Nat, k < l.length ∧ (∀ j : Nat, j < k → (rd_T32 l (j : Int)).f1 ≤ paid) ∧ paid < (rd_T32 l (k : Int)).f1) ∨ (∀ j : Nat, j < l.length → (rd_T32 l (j : Int)).f1 ≤ paid) := by
  have h : ∀ n : Nat, n ≤ l.length → (∃ k : Nat, k < n ∧ (∀ j : Nat, j < k → (rd_T32 l (j : Int)).f1 ≤ paid) ∧ paid < (rd_T32 l (k : Int)).f1) ∨ (∀ j : Nat, j < n → (rd_T32 l (j : Int)).f1 ≤ paid) := by
    intro n
    induction n with
    | zero => intro _; exact .inr fun j hj => absurd hj (by omega)
    | succ n ih =>
      intro hn
      rcases ih (by omega) with ⟨k, h1, h2, h3⟩ | h
      · exact .inl ⟨k, by omega, h2, h3⟩
      · by_cases hv : paid < (rd_T32 l (n : Int)).f1
        · exact .inl ⟨n, by omega, h, hv⟩
        · refine .inr fun j hj => ?_
          by_cases e : j = n
          · subst e; omega
          · exact h j (by omega)
  exact h l.length (Nat.le_refl _)
theorem oldest_some {paid : Int} {l : List S32} {k : Nat} (hk : k < l.length) (h : ∀ j : Nat, j < k → (rd_T32 l (j : Int)).f1 ≤ paid) (hv : paid < (rd_T32 l (k : Int)).f1) : late_Oldest.f l paid = some ((k : Int), true) := by
  unfold late_Oldest.f
  rw [firstOver_at paid l k hk h hv]
theorem oldest_none {paid : Int} {l : List S32} (h : ∀ j : Nat, j < l.length → (rd_T32 l (j : Int)).f1 ≤ paid) : late_Oldest.f l paid = some (0, false) := by
  unfold late_Oldest.f
  rw [firstOver_end paid l h]
/-- Each element is of its kinds. -/
def Fits (l : List S32) : Prop := ∀ x ∈ l, (-2147483648 ≤ x.f0 ∧ x.f0 ≤ 2147483647) ∧ (-9223372036854775808 ≤ x.f1 ∧ x.f1 ≤ 9223372036854775807)
theorem fits_at {l : List S32} (h : Fits l) (k : Nat) (hk : k < l.length) : (-2147483648 ≤ (rd_T32 l (k : Int)).f0 ∧ (rd_T32 l (k : Int)).f0 ≤ 2147483647) ∧ (-9223372036854775808 ≤ (rd_T32 l (k : Int)).f1 ∧ (rd_T32 l (k : Int)).f1 ≤ 9223372036854775807) := by
  have e : rd_T32 l (k : Int) = l[k] := by simp [rd_T32, List.getD_eq_getElem?_getD, List.getElem?_eq_getElem hk]
  rw [e]
  exact h _ (List.getElem_mem hk)
theorem since_some {paid today : Int} {l : List S32} {k : Nat} (hf : Fits l) (ht : -2147483648 ≤ today ∧ today ≤ 2147483647) (hk : k < l.length) (h : ∀ j : Nat, j < k → (rd_T32 l (j : Int)).f1 ≤ paid) (hv : paid < (rd_T32 l (k : Int)).f1) :
    late_Since.f l paid today = some (mx (today - (rd_T32 l (k : Int)).f0) 0) := by
  unfold late_Since.f
  have hb := fits_at hf k hk
  rw [oldest_some hk h hv]
  simp only [Option.bind_some, if_true]
  rw [if_pos (by omega), if_pos (by omega)]
  have w1 : wrap64 today = today := by unfold wrap64; omega
  have w2 : wrap64 (rd_T32 l (k : Int)).f0 = (rd_T32 l (k : Int)).f0 := by unfold wrap64; omega
  have w3 : wrap64 (today - (rd_T32 l (k : Int)).f0) = today - (rd_T32 l (k : Int)).f0 := by unfold wrap64; omega
  rw [w1, w2, w3]
theorem since_none {paid today : Int} {l : List S32} (h : ∀ j : Nat, j < l.length → (rd_T32 l (j : Int)).f1 ≤ paid) : late_Since.f l paid today = some 0 := by
  unfold late_Since.f
  rw [oldest_none h]
  rfl

def cv (d : S32) : S48 := ⟨d.f0, d.f1⟩
theorem rd_cv (y : List S32) (i : Nat) (hi : i < y.length) : rd_T48 (y.map cv) (i : Int) = cv (rd_T32 y (i : Int)) := by
  simp [rd_T48, rd_T32, List.getD_eq_getElem?_getD, List.getElem?_eq_getElem hi]
theorem rd_cv0 (y : List S32) (i : Nat) (hi : i < y.length) : (rd_T48 (y.map cv) (i : Int)).f0 = (rd_T32 y (i : Int)).f0 := by rw [rd_cv y i hi]; rfl
theorem rd_cv1 (y : List S32) (i : Nat) (hi : i < y.length) : (rd_T48 (y.map cv) (i : Int)).f1 = (rd_T32 y (i : Int)).f1 := by rw [rd_cv y i hi]; rfl
theorem few_l0 (y : List S32) (hf : Fits y) (hl : y.length ≤ 60) : ∀ (d k i : Nat) (acc : List S48), i + d = y.length → acc.length = i → d < k → arrearslaw12_few.l0 k y acc y (y.length : Int) (i : Int) = some (y, acc ++ (y.drop i).map cv) := by
  intro d
  induction d with
  | zero =>
    intro k i acc hi ha hk
    obtain ⟨k, rfl⟩ : ∃ m, k = m + 1 := ⟨k - 1, by omega⟩
    simp only [arrearslaw12_few.l0]
    rw [if_neg (by omega), List.drop_of_length_le (by omega)]
    simp
  | succ d ih =>
    intro k i acc hi ha hk
    obtain ⟨k, rfl⟩ : ∃ m, k = m + 1 := ⟨k - 1, by omega⟩
    have hlt : i < y.length := by omega
    have hb := fits_at hf i hlt
    simp only [arrearslaw12_few.l0]
    rw [if_pos (by omega), if_pos (by omega), if_pos (by omega), if_pos (by omega)]
    have w1 : wrap64 ((i : Int) + 1) = ((i + 1 : Nat) : Int) := by unfold wrap64; omega
    have w2 : wrap64 (rd_T32 y (i : Int)).f0 = (rd_T32 y (i : Int)).f0 := by unfold wrap64; omega
    rw [w1, w2, ih k (i + 1) _ (by omega) (by simp; omega) (by omega), List.drop_eq_getElem_cons hlt]
    have e : rd_T32 y (i : Int) = y[i] := by simp [rd_T32, List.getD_eq_getElem?_getD, List.getElem?_eq_getElem hlt]
    rw [e]
    simp only [List.map_cons, List.append_assoc, List.singleton_append]
    rfl
theorem few_eq (l : List S32) (hf : Fits l) (hl : l.length * 16 ≤ 140737488351232) (k : Nat) (hk : 60 < k) : arrearslaw12_few.f k l = some (l.take 60, (l.take 60).map cv) := by
  unfold arrearslaw12_few.f
  simp only [Option.bind_some, List.nil_append, List.length_nil, Nat.zero_add]
  have hm : (mn (l.length : Int) 60).toNat = min l.length 60 := by unfold mn; split <;> omega
  have hm0 : 0 ≤ mn (l.length : Int) 60 := by unfold mn; split <;> omega
  have hm1 : mn (l.length : Int) 60 ≤ (l.length : Int) := by unfold mn; split <;> omega
  rw [if_pos hm0, if_pos hm1, hm]
  have ht : l.take (min l.length 60) = l.take 60 := by
    rw [Nat.min_comm, ← List.take_eq_take_min]
  rw [ht]
  have hlen : (l.take 60).length ≤ 60 := List.length_take_le _ _
  rw [if_pos (by omega)]
  have := few_l0 (l.take 60) (fun x hx => hf x (List.mem_of_mem_take hx)) hlen (l.take 60).length k 0 [] (by omega) rfl (by omega)
  simpa using this

theorem pure_proved : arrearslaw12_LateGoes.Pure := by
  intro l paid more today hl hf hp hm ht
  refine ⟨62, ?_⟩
  unfold arrearslaw12_LateGoes.f
  rw [awake_yes]
  simp only [Option.bind_some, if_true]
  rw [few_eq l hf hl 62 (by omega)]
  simp only [Option.bind_some]
  have hf' : Fits (l.take 60) := fun x hx => hf x (List.mem_of_mem_take hx)
  generalize l.take 60 = y at hf'
  simp only [arrearslaw12_LateGoes.j0]
  by_cases h1 : today < 0
  · rw [if_pos h1]; rfl
  rw [if_neg h1]
  by_cases h2 : today > 3652057
  · rw [if_pos (by simpa using h2)]
  rw [if_neg (by simpa using h2)]
  have w1 : wrap64 paid = paid := by unfold wrap64; omega
  have w2 : wrap64 more = more := by unfold wrap64; omega
  have w3 : wrap64 (paid + more) = paid + more := by unfold wrap64; omega
  have w4 : wrap32 (today + 1) = today + 1 := by unfold wrap32; omega
  rw [w1, w2, w3, w4]
  rcases split_first paid y with ⟨k, hk, hb, hv⟩ | hno
  · rw [since_some hf' ht hk hb hv, since_some hf' (by omega) hk hb hv, oldest_some hk hb hv]
    have hbd := fits_at hf' k hk
    simp only [Option.bind_some, if_true]
    rcases split_first (paid + more) y with ⟨k2, hk2, hb2, hv2⟩ | hno2
    · rw [oldest_some hk2 hb2 hv2]
      have hge : k ≤ k2 := by
        rcases Nat.lt_or_ge k2 k with h | h
        · have := hb k2 h; omega
        · exact h
      simp only [Option.bind_some, if_true]
      rw [if_pos (by omega), if_pos (by omega)]
      have hd : decide ((k2 : Int) ≥ (k : Int)) = true := by simpa using hge
      rw [hd]
      by_cases hday : (rd_T32 y (k : Int)).f0 ≤ today
      · rw [if_pos hday, if_pos (by unfold mx wrap64; (repeat' split) <;> omega)]
      · rw [if_neg hday]
    · rw [oldest_none hno2]
      simp only [Option.bind_some, Bool.false_eq_true, if_false]
      rw [if_pos (by omega), if_pos (by omega)]
      by_cases hday : (rd_T32 y (k : Int)).f0 ≤ today
      · rw [if_pos hday, if_pos (by unfold mx wrap64; (repeat' split) <;> omega)]
      · rw [if_neg hday]
  · have hno2 : ∀ j : Nat, j < y.length → (rd_T32 y (j : Int)).f1 ≤ paid + more := fun j hj => by have := hno j hj; omega
    rw [since_none hno, since_none hno, oldest_none hno, oldest_none hno2]
    rfl

end Go.Proofs.Ytjidjobennlfjaa.PLateGoes
