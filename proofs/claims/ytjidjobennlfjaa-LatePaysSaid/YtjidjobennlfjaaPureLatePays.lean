/- The pure statement behind the law LatePays, over numbers and lists alone. Conditions: those that the printed statement names (each number is of its kind). -/
import Derived.Test.YtjidjobennlfjaaDLatePays
set_option linter.unusedVariables false
set_option linter.unusedSimpArgs false
namespace Go.Proofs.Ytjidjobennlfjaa.PLatePays
open Go.RowKit Go.Proofs.YtjidjobennlfjaaW.PrintWords Go.Proofs.YtjidjobennlfjaaW.PrintLast Go.Proofs.YtjidjobennlfjaaW.PrintMore

theorem awake_yes : arrearslaw12_awake.f = some true := by decide +kernel
theorem split_first (paid : Int) (l : List S32) : (∃ k : Nat, k < l.length ∧ (∀ j : Nat, j < k → (rd_T32 l (j : Int)).f1 ≤ paid) ∧ paid < (rd_T32 l (k : Int)).f1) ∨ (∀ j : Nat, j < l.length → (rd_T32 l (j : Int)).f1 ≤ paid) := by
  have h : ∀ n : Nat, n ≤ l.length → (∃ k : Nat, k < n ∧ (∀ j : Nat, j < k → (rd_T32 l (j : Int)).f1 ≤ paid) ∧ paid < (rd_T32 l (k : Int)).f1) ∨ (∀ j : Nat, j < n → (rd_T32 l (j : Int)).f1 ≤ paid) := by
    intro n
    induction n with
    | zero => intro _; exact .inr fun j hj => absurd hj (by omega)
    | succ n ih =>
      intro hn
      rcases ih (by omega) with ⟨k, h1, h2, h3⟩ | h
      · exact .inl ⟨k, by omega, h2, h3⟩
      · by_cases hv : paid < (rd_T32 l (n : Int)).f1
        · exact .inl ⟨n, by omega, h, hv⟩
        · refine .inr fun j hj => ?_
          by_cases e : j = n
          · subst e; omega
          · exact h j (by omega)
  exact h l.length (Nat.le_refl _)
theorem oldest_some {paid : Int} {l : List S32} {k : Nat} (hk : k < l.length) (h : ∀ j : Nat, j < k → (rd_T32 l (j : Int)).f1 ≤ paid) (hv : paid < (rd_T32 l (k : Int)).f1) : late_Oldest.f l paid = some ((k : Int), true) := by
  unfold late_Oldest.f
  rw [firstOver_at paid l k hk h hv]
theorem oldest_none {paid : Int} {l : List S32} (h : ∀ j : Nat, j < l.length → (rd_T32 l (j : Int)).f1 ≤ paid) : late_Oldest.f l paid = some (0, false) := by
  unfold late_Oldest.f
  rw [firstOver_end paid l h]
/-- Each element is of its kinds. -/
def Fits (l : List S32) : Prop := ∀ x ∈ l, (-2147483648 ≤ x.f0 ∧ x.f0 ≤ 2147483647) ∧ (-9223372036854775808 ≤ x.f1 ∧ x.f1 ≤ 9223372036854775807)
theorem fits_at {l : List S32} (h : Fits l) (k : Nat) (hk : k < l.length) : (-2147483648 ≤ (rd_T32 l (k : Int)).f0 ∧ (rd_T32 l (k : Int)).f0 ≤ 2147483647) ∧ (-9223372036854775808 ≤ (rd_T32 l (k : Int)).f1 ∧ (rd_T32 l (k : Int)).f1 ≤ 9223372036854775807) := by
  have e : rd_T32 l (k : Int) = l[k] := by simp [rd_T32, List.getD_eq_getElem?_getD, List.getElem?_eq_getElem hk]
  rw [e]
  exact h _ (List.getElem_mem hk)
theorem since_some {paid today : Int} {l : List S32} {k : Nat} (hf : Fits l) (ht : -2147483648 ≤ today ∧ today ≤ 2147483647) (hk : k < l.length) (h : ∀ j : Nat, j < k → (rd_T32 l (j : Int)).f1 ≤ paid) (hv : paid < (rd_T32 l (k : Int)).f1) :
    late_Since.f l paid today = some (mx (today - (rd_T32 l (k : Int)).f0) 0) := by
  unfold late_Since.f
  have hb := fits_at hf k hk
  rw [oldest_some hk h hv]
  simp only [Option.bind_some, if_true]
  rw [if_pos (by omega), if_pos (by omega)]
  have w1 : wrap64 today = today := by unfold wrap64; omega
  have w2 : wrap64 (rd_T32 l (k : Int)).f0 = (rd_T32 l (k : Int)).f0 := by unfold wrap64; omega
  have w3 : wrap64 (today - (rd_T32 l (k : Int)).f0) = today - (rd_T32 l (k : Int)).f0 := by unfold wrap64; omega
  rw [w1, w2, w3]
theorem since_none {paid today : Int} {l : List S32} (h : ∀ j : Nat, j < l.length → (rd_T32 l (j : Int)).f1 ≤ paid) : late_Since.f l paid today = some 0 := by
  unfold late_Since.f
  rw [oldest_none h]
  rfl

/-- A list that rises, as it is built. -/
structure Rises (y : List S32) (at_ sum : Int) : Prop where
  day : ∀ j : Nat, j < y.length → 0 ≤ (rd_T32 y (j : Int)).f0 ∧ (rd_T32 y (j : Int)).f0 ≤ at_
  owed : ∀ j : Nat, j < y.length → 1 ≤ (rd_T32 y (j : Int)).f1 ∧ (rd_T32 y (j : Int)).f1 ≤ sum
  up : ∀ i j : Nat, i < j → j < y.length → (rd_T32 y (i : Int)).f0 < (rd_T32 y (j : Int)).f0 ∧ (rd_T32 y (i : Int)).f1 < (rd_T32 y (j : Int)).f1
  len : y.length ≤ 40
  bd0 : 0 ≤ at_ ∧ at_ ≤ 256 * (y.length : Int)
  bd1 : 0 ≤ sum ∧ sum ≤ 65536 * (y.length : Int)
theorem rd_old (y : List S32) (e : S32) (j : Nat) (hj : j < y.length) : rd_T32 (y ++ [e]) (j : Int) = rd_T32 y (j : Int) := by
  simp [rd_T32, List.getD_eq_getElem?_getD, List.getElem?_append_left hj]
theorem rd_new (y : List S32) (e : S32) : rd_T32 (y ++ [e]) (y.length : Int) = e := by
  simp [rd_T32, List.getD_eq_getElem?_getD]
theorem Rises.grow {y : List S32} {at_ sum : Int} (h : Rises y at_ sum) (hl : y.length < 40) (d e : Int) (hd : 0 ≤ d ∧ d ≤ 255) (he : 0 ≤ e ∧ e ≤ 65535) : Rises (y ++ [(⟨at_ + 1 + d, sum + 1 + e⟩ : S32)]) (at_ + 1 + d) (sum + 1 + e) := by
  have hb0 := h.bd0
  have hb1 := h.bd1
  have hlen : (y ++ [(⟨at_ + 1 + d, sum + 1 + e⟩ : S32)]).length = y.length + 1 := by simp
  refine ⟨?_, ?_, ?_, by rw [hlen]; omega, by rw [hlen]; omega, by rw [hlen]; omega⟩
  · intro j hj
    rw [hlen] at hj
    by_cases c : j < y.length
    · rw [rd_old y _ j c]; have := h.day j c; omega
    · obtain rfl : j = y.length := by omega
      rw [rd_new]; exact ⟨by show 0 ≤ at_ + 1 + d; omega, Int.le_refl _⟩
  · intro j hj
    rw [hlen] at hj
    by_cases c : j < y.length
    · rw [rd_old y _ j c]; have := h.owed j c; omega
    · obtain rfl : j = y.length := by omega
      rw [rd_new]; exact ⟨by show 1 ≤ sum + 1 + e; omega, Int.le_refl _⟩
  · intro i j hij hj
    rw [hlen] at hj
    by_cases c : j < y.length
    · rw [rd_old y _ j c, rd_old y _ i (by omega)]; exact h.up i j hij c
    · obtain rfl : j = y.length := by omega
      rw [rd_new, rd_old y _ i hij]
      have a := h.day i hij
      have b := h.owed i hij
      exact ⟨by show _ < at_ + 1 + d; omega, by show _ < sum + 1 + e; omega⟩
theorem Rises.fits {y : List S32} {at_ sum : Int} (h : Rises y at_ sum) : Fits y := by
  intro x hx
  obtain ⟨j, hj, e⟩ := List.getElem_of_mem hx
  have e2 : rd_T32 y (j : Int) = x := by rw [← e]; simp [rd_T32, List.getD_eq_getElem?_getD, List.getElem?_eq_getElem hj]
  have a := h.day j hj
  have b := h.owed j hj
  rw [e2] at a b
  have := h.bd0; have := h.bd1; have := h.len
  omega
/-- What the law asks of the list when it is built. -/
def ask (y : List S32) (k : Int) : Option Bool := (if (y.length : Int) = 0 then (some true) else (if 0 ≤ (Int.tmod (wrap64 (k)) (y.length : Int)) then (if (Int.tmod (wrap64 (k)) (y.length : Int)) < (y.length : Int) then ((late_Since.f y ((rd_T32 y (Int.tmod (wrap64 (k)) (y.length : Int))).f1) (wrap32 (((rd_T32 y (Int.tmod (wrap64 (k)) (y.length : Int))).f0) + 1))).bind fun t117 => (if t117 = 0 then ((late_Since.f y (wrap64 (((rd_T32 y (Int.tmod (wrap64 (k)) (y.length : Int))).f1) - 1)) (wrap32 (((rd_T32 y (Int.tmod (wrap64 (k)) (y.length : Int))).f0) + 1))).bind fun t120 => (if t120 = 1 then ((late_Since.f y (wrap64 (((rd_T32 y (Int.tmod (wrap64 (k)) (y.length : Int))).f1) - 1)) ((rd_T32 y (Int.tmod (wrap64 (k)) (y.length : Int))).f0)).bind fun t123 => (if t123 = 0 then ((late_Oldest.f y ((rd_T32 y (Int.tmod (wrap64 (k)) (y.length : Int))).f1)).bind fun bt125 => (if (bt125.2 == (decide ((wrap64 ((Int.tmod (wrap64 (k)) (y.length : Int)) + 1)) < (y.length : Int)))) = true then (if bt125.2 = true then (some (bt125.1 == (wrap64 ((Int.tmod (wrap64 (k)) (y.length : Int)) + 1)))) else (some true)) else (some false))) else (some false))) else (some false))) else (some false))) else (none)) else (none)))
theorem wd_ {a : Int} (h : 0 ≤ a ∧ a ≤ 10240) : wrap32 (a + 1) = a + 1 := by unfold wrap32; omega
theorem ws_ {a : Int} (h : 1 ≤ a ∧ a ≤ 2621440) : wrap64 (a - 1) = a - 1 := by unfold wrap64; omega
theorem wi_ {i n : Nat} (h : i < n) (hn : n ≤ 40) : wrap64 ((i : Int) + 1) = ((i + 1 : Nat) : Int) := by unfold wrap64; omega
theorem mx1_ (a : Int) : mx (a + 1 - a) 0 = 1 := by unfold mx; split <;> omega
theorem mx0_ (a : Int) : mx (a - a) 0 = 0 := by unfold mx; split <;> omega
theorem mx2_ {a b : Int} (h : a < b) : mx (a + 1 - b) 0 = 0 := by unfold mx; split <;> omega
theorem day_ {a b n : Int} (h : 0 ≤ a ∧ a ≤ b) (hb : 0 ≤ b ∧ b ≤ 256 * n) (hn : n ≤ 40) : 0 ≤ a ∧ a ≤ 10240 := by omega
theorem sum_ {a b n : Int} (h : 1 ≤ a ∧ a ≤ b) (hb : 0 ≤ b ∧ b ≤ 65536 * n) (hn : n ≤ 40) : 1 ≤ a ∧ a ≤ 2621440 := by omega
theorem day32 {a : Int} (h : 0 ≤ a ∧ a ≤ 10240) : -2147483648 ≤ a ∧ a ≤ 2147483647 := by omega
theorem day32' {a : Int} (h : 0 ≤ a ∧ a ≤ 10240) : -2147483648 ≤ a + 1 ∧ a + 1 ≤ 2147483647 := by omega
theorem ask_yes {y : List S32} {at_ sum : Int} (h : Rises y at_ sum) (k : Int) (hk : 0 ≤ k ∧ k ≤ 255) : ask y k = some true := by
  unfold ask
  have hlen := h.len
  by_cases c0 : (y.length : Int) = 0
  · rw [if_pos c0]
  rw [if_neg c0]
  have wk : wrap64 k = k := by unfold wrap64; omega
  rw [wk, Int.tmod_eq_emod_of_nonneg hk.1]
  have m0 : 0 ≤ k % (y.length : Int) := Int.emod_nonneg _ c0
  have m1 : k % (y.length : Int) < (y.length : Int) := Int.emod_lt_of_pos _ (by omega)
  generalize k % (y.length : Int) = q at m0 m1
  obtain ⟨i, rfl⟩ := Int.eq_ofNat_of_zero_le m0
  rw [if_pos m0, if_pos m1]
  have hi : i < y.length := Int.ofNat_lt.1 m1
  have hn40 : (y.length : Int) ≤ 40 := Int.ofNat_le.2 hlen
  have ha := day_ (h.day i hi) h.bd0 hn40
  have hb := sum_ (h.owed i hi) h.bd1 hn40
  have hf := h.fits
  rw [wd_ ha, ws_ hb, wi_ hi hlen]
  have below : ∀ j : Nat, j < i → (rd_T32 y (j : Int)).f1 ≤ (rd_T32 y (i : Int)).f1 - 1 := fun j hj => by have := (h.up j i hj hi).2; omega
  have upto : ∀ j : Nat, j < i + 1 → (rd_T32 y (j : Int)).f1 ≤ (rd_T32 y (i : Int)).f1 := fun j hj => by
    by_cases e : j = i
    · subst e; exact Int.le_refl _
    · have := below j (by omega); omega
  rw [since_some (paid := (rd_T32 y (i : Int)).f1 - 1) (today := (rd_T32 y (i : Int)).f0 + 1) hf (day32' ha) hi below (Int.sub_lt_self _ Int.one_pos), since_some (paid := (rd_T32 y (i : Int)).f1 - 1) (today := (rd_T32 y (i : Int)).f0) hf (day32 ha) hi below (Int.sub_lt_self _ Int.one_pos)]
  rw [mx1_, mx0_]
  by_cases c1 : i + 1 < y.length
  · have hu := h.up i (i + 1) (by omega) c1
    rw [since_some (k := i + 1) hf (day32' ha) c1 upto hu.2, oldest_some (k := i + 1) c1 upto hu.2]
    rw [mx2_ hu.1]
    simp only [Option.bind_some, if_true]
    rw [decide_eq_true (Int.ofNat_lt.2 c1)]
    simp
  · have hall : ∀ j : Nat, j < y.length → (rd_T32 y (j : Int)).f1 ≤ (rd_T32 y (i : Int)).f1 := fun j hj => upto j (by omega)
    rw [since_none hall, oldest_none hall]
    simp only [Option.bind_some, if_true]
    rw [decide_eq_false (fun hc => c1 (Int.ofNat_lt.1 hc))]
    rfl
theorem wrap_i {i : Nat} (h : i < 9223372036854775807) : wrap64 ((i : Int) + 1) = ((i + 1 : Nat) : Int) := by unfold wrap64; omega
theorem wrap_at {a d : Int} (ha : 0 ≤ a ∧ a ≤ 10240) (hd : 0 ≤ d ∧ d ≤ 255) : wrap32 (wrap32 (a + 1) + wrap32 d) = a + 1 + d := by unfold wrap32; omega
theorem wrap_sum {a d : Int} (ha : 0 ≤ a ∧ a ≤ 2621440) (hd : 0 ≤ d ∧ d ≤ 65535) : wrap64 (wrap64 (a + 1) + wrap64 d) = a + 1 + d := by unfold wrap64; omega
theorem loop_ok (each k : Int) (he : 0 ≤ each ∧ each ≤ 65535) (hk : 0 ≤ k ∧ k ≤ 255) (l : List Int) (hl : ∀ x ∈ l, 0 ≤ x ∧ x ≤ 255) (hll : l.length ≤ 140737488351232) :
    ∀ (d n i : Nat) (y : List S32) (at_ sum : Int), i + d = l.length → d < n → y.length = min i 40 → Rises y at_ sum → arrearslaw12_LatePays.l0 n each k y at_ sum l (l.length : Int) (i : Int) = some true := by
  intro d
  induction d with
  | zero =>
    intro n i y at_ sum hi hn hy h
    obtain ⟨n, rfl⟩ : ∃ m, n = m + 1 := ⟨n - 1, by omega⟩
    simp only [arrearslaw12_LatePays.l0]
    rw [if_neg (by omega)]
    exact ask_yes h k hk
  | succ d ih =>
    intro n i y at_ sum hi hn hy h
    obtain ⟨n, rfl⟩ : ∃ m, n = m + 1 := ⟨n - 1, by omega⟩
    have hlt : i < l.length := by omega
    have hx : 0 ≤ rd l (i : Int) ∧ rd l (i : Int) ≤ 255 := by
      have e : rd l (i : Int) = l[i] := by simp [rd, List.getD_eq_getElem?_getD, List.getElem?_eq_getElem hlt]
      rw [e]
      exact hl _ (List.getElem_mem hlt)
    simp only [arrearslaw12_LatePays.l0]
    rw [if_pos (Int.ofNat_lt.2 hlt), if_pos (Int.natCast_nonneg i), if_pos (Int.ofNat_lt.2 hlt), wrap_i (by omega)]
    by_cases c : i < 40
    · have hyl : y.length = i := by omega
      have b0 := h.bd0
      have b1 := h.bd1
      rw [if_pos (by omega), if_pos (by omega), wrap_at (by omega) hx, wrap_sum (by omega) he]
      exact ih n (i + 1) _ _ _ (by omega) (by omega) (by simp; omega) (h.grow (by omega) _ _ hx he)
    · rw [if_neg (by omega)]
      exact ih n (i + 1) y at_ sum (by omega) (by omega) (by omega) h
theorem pure_proved : arrearslaw12_LatePays.Pure := by
  intro l each k hll hl he hk
  refine ⟨l.length + 1, ?_⟩
  unfold arrearslaw12_LatePays.f
  rw [awake_yes]
  simp only [Option.bind_some, if_true]
  have := loop_ok each k he hk l hl (by omega) l.length (l.length + 1) 0 [] 0 0 (by omega) (by omega) rfl ⟨fun j hj => absurd hj (by simp), fun j hj => absurd hj (by simp), fun i j _ hj => absurd hj (by simp), by simp, by simp, by simp⟩
  exact this

end Go.Proofs.Ytjidjobennlfjaa.PLatePays
