/- The pure statement behind the law QuillTakes, over numbers and lists alone. Conditions: those that the printed statement names (each number is of its kind). -/
import Derived.Test.YtdojgjbiilnjpaaDoorDQuillTakes
import Derived.Test.YtdojgjbiilnjpaaDoorMquilmath
set_option linter.unusedVariables false
set_option linter.unusedSimpArgs false
namespace Go.Proofs.YtdojgjbiilnjpaaDoor.PQuillTakes
open Go.RowKit Go.Proofs.YtdojgjbiilnjpaaDoorW.PrintWords Go.Proofs.YtdojgjbiilnjpaaDoorW.PrintLast Go.Proofs.YtdojgjbiilnjpaaDoorW.PrintMore Go.Proofs.YtdojgjbiilnjpaaDoor.M

/-- A value of the law's argument. -/
def VOk (v : S31) : Prop := (0 ≤ v.f0 ∧ v.f0 ≤ 255) ∧ (0 ≤ v.f1 ∧ v.f1 ≤ 18446744073709551615) ∧ (-9223372036854775808 ≤ v.f2 ∧ v.f2 ≤ 9223372036854775807) ∧ (v.f3.size ≤ 9223372036854775807) ∧ (0 ≤ v.f4 ∧ v.f4 ≤ 18446744073709551615)
/-- .. cut short. -/
def VFew (v : S31) : Prop := (0 ≤ v.f0 ∧ v.f0 ≤ 255) ∧ (0 ≤ v.f1 ∧ v.f1 ≤ 18446744073709551615) ∧ (-9223372036854775808 ≤ v.f2 ∧ v.f2 ≤ 9223372036854775807) ∧ v.f3.size ≤ 40 ∧ (0 ≤ v.f4 ∧ v.f4 ≤ 18446744073709551615) ∧ (v.f0 % 4 = 3 → v.f4 < 1000)
def fewOne (v : S31) : S31 := ⟨v.f0, v.f1, v.f2, v.f3.extract 0 (min v.f3.size 40), if v.f0 % 4 = 3 then v.f4 % 1000 else v.f4⟩
theorem few_ok {v : S31} (h : VOk v) : VFew (fewOne v) := by
  obtain ⟨h0, h1, h2, h3, h4⟩ := h
  refine ⟨h0, h1, h2, ?_, ?_, ?_⟩
  · show (v.f3.extract 0 (min v.f3.size 40)).size ≤ 40
    rw [ByteArray.size_extract]
    omega
  · show 0 ≤ (if v.f0 % 4 = 3 then v.f4 % 1000 else v.f4) ∧ (if v.f0 % 4 = 3 then v.f4 % 1000 else v.f4) ≤ 18446744073709551615
    split <;> omega
  · intro hk
    show (if v.f0 % 4 = 3 then v.f4 % 1000 else v.f4) < 1000
    have hk' : v.f0 % 4 = 3 := hk
    rw [if_pos hk']
    omega
theorem text_few (s : ByteArray) (hs : s.size ≤ 9223372036854775807) : arrearsref01_Text.f s 40 = some (s.extract 0 (min s.size 40)) := by
  unfold arrearsref01_Text.f
  have hm : mn (s.size : Int) 40 = ((min s.size 40 : Nat) : Int) := by unfold mn; split <;> omega
  rw [hm, if_pos (by omega), if_pos (by omega), Int.toNat_natCast]
theorem few_l0 (L : List S31) (hL : ∀ x ∈ L, VOk x) (hlen : L.length ≤ 2932031007400) : ∀ (j k i : Nat), L.length - i = j → i ≤ L.length → j < k → arrearslaw08_few.l0 k (((L.take i).take 12).map fewOne) L (L.length : Int) (i : Int) = some ((L.take 12).map fewOne) := by
  intro j
  induction j with
  | zero =>
    intro k i hj hi hk
    obtain ⟨k, rfl⟩ : ∃ q, k = q + 1 := ⟨k - 1, by omega⟩
    unfold arrearslaw08_few.l0
    rw [if_neg (by omega), List.take_of_length_le (show L.length ≤ i by omega)]
  | succ j ih =>
    intro k i hj hi hk
    obtain ⟨k, rfl⟩ : ∃ q, k = q + 1 := ⟨k - 1, by omega⟩
    have hil : i < L.length := by omega
    have hw : wrap64 ((i : Int) + 1) = ((i + 1 : Nat) : Int) := by unfold wrap64; omega
    have e1 : rd_T31 L (i : Int) = L[i] := by simp [rd_T31, List.getD, List.getElem?_eq_getElem hil]
    have hv := hL _ (List.getElem_mem hil)
    unfold arrearslaw08_few.l0
    rw [if_pos (by omega), if_pos (by omega), if_pos (by omega), e1, hw]
    by_cases c : (i : Int) < 12
    · rw [if_pos c, text_few _ hv.2.2.2.1]
      simp only [Option.bind_some]
      have hlt : (((L.take i).take 12).map fewOne).length < 2932031007402 := by rw [List.length_map, List.length_take, List.length_take]; omega
      have e : ((L.take i).take 12).map fewOne ++ [fewOne L[i]] = ((L.take (i + 1)).take 12).map fewOne := by
        rw [List.take_take, List.take_take, show min 12 i = i by omega, show min 12 (i + 1) = i + 1 by omega, List.take_succ_eq_append_getElem hil, List.map_append]
        rfl
      have ht : Int.tmod L[i].f0 4 = L[i].f0 % 4 := Int.tmod_eq_emod_of_nonneg hv.1.1
      have ht2 : Int.tmod L[i].f4 1000 = L[i].f4 % 1000 := Int.tmod_eq_emod_of_nonneg hv.2.2.2.2.1
      have hih := ih k (i + 1) (by omega) (by omega) (by omega)
      rw [← e] at hih
      by_cases c3 : Int.tmod L[i].f0 4 = 3
      · rw [if_pos c3, if_pos hlt, ht2]
        rw [show fewOne L[i] = ⟨L[i].f0, L[i].f1, L[i].f2, L[i].f3.extract 0 (min L[i].f3.size 40), L[i].f4 % 1000⟩ by unfold fewOne; rw [if_pos (by omega)]] at hih
        exact hih
      · rw [if_neg c3, if_pos hlt]
        rw [show fewOne L[i] = ⟨L[i].f0, L[i].f1, L[i].f2, L[i].f3.extract 0 (min L[i].f3.size 40), L[i].f4⟩ by unfold fewOne; rw [if_neg (by omega)]] at hih
        exact hih
    · rw [if_neg c]
      have e : (L.take i).take 12 = (L.take (i + 1)).take 12 := by
        rw [List.take_take, List.take_take, show min 12 i = 12 by omega, show min 12 (i + 1) = 12 by omega]
      rw [e]
      exact ih k (i + 1) (by omega) (by omega) (by omega)
theorem few_eq (L : List S31) (hL : ∀ x ∈ L, VOk x) (hlen : L.length ≤ 2932031007400) (k : Nat) (hk : L.length < k) : arrearslaw08_few.f k L = some ((L.take 12).map fewOne) := by
  unfold arrearslaw08_few.f
  have := few_l0 L hL hlen L.length k 0 (by omega) (by omega) hk
  simpa using this
theorem few_all (L : List S31) (hL : ∀ x ∈ L, VOk x) : ∀ x ∈ (L.take 12).map fewOne, VFew x := by
  intro x hx
  obtain ⟨y, hy, rfl⟩ := List.mem_map.1 hx
  exact few_ok (hL y (List.mem_of_mem_take hy))
theorem few_len (L : List S31) : ((L.take 12).map fewOne).length ≤ 12 := by rw [List.length_map, List.length_take]; omega

theorem cut_l0 (a : Int) (ha : 0 ≤ a ∧ a ≤ 1000) (L : List Int) (hL : L.length ≤ 140737488351232) : ∀ (j k i : Nat), L.length - i = j → i ≤ L.length → j < k → arrearsref01_Cut.l0 k a ((L.take i).take a.toNat) L (L.length : Int) (i : Int) = some (L.take a.toNat) := by
  intro j
  induction j with
  | zero =>
    intro k i hj hi hk
    obtain ⟨k, rfl⟩ : ∃ q, k = q + 1 := ⟨k - 1, by omega⟩
    unfold arrearsref01_Cut.l0
    rw [if_neg (by omega), List.take_of_length_le (show L.length ≤ i by omega)]
  | succ j ih =>
    intro k i hj hi hk
    obtain ⟨k, rfl⟩ : ∃ q, k = q + 1 := ⟨k - 1, by omega⟩
    have hil : i < L.length := by omega
    have hw : wrap64 ((i : Int) + 1) = ((i + 1 : Nat) : Int) := by unfold wrap64; omega
    unfold arrearsref01_Cut.l0
    rw [if_pos (by omega), if_pos (by omega), if_pos (by omega)]
    have e1 : rd L (i : Int) = L[i] := by simp [rd, List.getD, List.getElem?_eq_getElem hil]
    by_cases c : (i : Int) < a
    · rw [if_pos c, if_pos (by rw [List.length_take, List.length_take]; omega), hw]
      have e : (L.take i).take a.toNat ++ [rd L (i : Int)] = (L.take (i + 1)).take a.toNat := by
        rw [e1, List.take_take, List.take_take, show min a.toNat i = i by omega, show min a.toNat (i + 1) = i + 1 by omega, List.take_succ_eq_append_getElem hil]
      rw [e]
      exact ih k (i + 1) (by omega) (by omega) (by omega)
    · rw [if_neg c, hw]
      have e : (L.take i).take a.toNat = (L.take (i + 1)).take a.toNat := by
        rw [List.take_take, List.take_take, show min a.toNat i = a.toNat by omega, show min a.toNat (i + 1) = a.toNat by omega]
      rw [e]
      exact ih k (i + 1) (by omega) (by omega) (by omega)
theorem cut_eq (a : Int) (ha : 0 ≤ a ∧ a ≤ 1000) (L : List Int) (hL : L.length ≤ 140737488351232) (k : Nat) (hk : L.length < k) : arrearsref01_Cut.f k L a = some (L.take a.toNat) := by
  unfold arrearsref01_Cut.f
  have := cut_l0 a ha L hL L.length k 0 (by omega) (by omega) hk
  simpa using this

/-- Both take alike: value and rest, or neither. -/
theorem take_same {p : List Int} (hr : rng p) {v : S31} (hv : VFew v) :
    (∃ T R, rtake p v.f0 v.f4 = some (T, R) ∧ qtake (some p) v.f0 v.f4 = (T, some R) ∧ rng R ∧ R.length ≤ p.length) ∨ (rtake p v.f0 v.f4 = none ∧ qtake (some p) v.f0 v.f4 = ((0, 0, ⟨#[]⟩), none)) := by
  obtain ⟨⟨h0, h0'⟩, ⟨h1, h1'⟩, ⟨h2, h2'⟩, h3, ⟨h4, h4'⟩, h5⟩ := hv
  unfold rtake qtake
  rcases hi : inum p with _ | ⟨n, mk, r⟩
  · right
    have hu : ∀ m, luint (some p) m = (0, none) := by intro m; simp [luint, numOf, hi]
    have hl : lint (some p) = (0, none) := by simp [lint, numOf, hi]
    have ht : ∀ m, ltext (some p) m = (⟨#[]⟩, none) := by intro m; simp [ltext, hu]
    refine ⟨rfl, ?_⟩
    simp only [hu, hl, ht]
    split
    · rfl
    · split
      · rfl
      · split <;> rfl
  · obtain ⟨_, hn0, hn1, hrr⟩ := inum_lay hr hi
    have hsh := inum_short hi
    have hu : ∀ m, luint (some p) m = if mk = true then (0, none) else if n ≤ m then (n, some r) else (0, none) := by intro m; simp [luint, numOf, hi]
    have hl : lint (some p) = if 9223372036854775808 ≤ n then (0, none) else if mk = true then (-1 - n, some r) else (n, some r) := by simp [lint, numOf, hi]
    simp only
    by_cases c0 : v.f0 % 4 = 0
    · simp only [if_pos c0, hu]
      by_cases d : mk = false ∧ n ≤ v.f4
      · left
        rw [if_pos d, if_neg (show ¬ mk = true by simp [d.1]), if_pos d.2]
        exact ⟨_, _, rfl, rfl, hrr, hsh⟩
      · right
        rw [if_neg d]
        refine ⟨rfl, ?_⟩
        by_cases e : mk = true
        · rw [if_pos e]
        · rw [if_neg e, if_neg (fun x => d ⟨by simpa using e, x⟩)]
    · simp only [if_neg c0]
      by_cases c1 : v.f0 % 4 = 1
      · simp only [if_pos c1, hl]
        by_cases d : n < 9223372036854775808
        · left
          rw [if_pos d, if_neg (show ¬ 9223372036854775808 ≤ n by omega)]
          refine ⟨_, _, rfl, ?_, hrr, hsh⟩
          by_cases e : mk = true
          · rw [if_pos e, if_pos e]
          · rw [if_neg e, if_neg e]
        · right
          rw [if_neg d, if_pos (show 9223372036854775808 ≤ n by omega)]
          exact ⟨rfl, rfl⟩
      · simp only [if_neg c1]
        by_cases c2 : v.f0 % 4 = 2
        · simp only [if_pos c2, hu]
          by_cases d : mk = false ∧ n ≤ 1
          · left
            rw [if_pos d, if_neg (show ¬ mk = true by simp [d.1]), if_pos d.2]
            refine ⟨_, _, rfl, ?_, hrr, hsh⟩
            by_cases e : n = 1
            · simp [e]
            · have : n = 0 := by omega
              subst this
              rfl
          · right
            rw [if_neg d]
            refine ⟨rfl, ?_⟩
            by_cases e : mk = true
            · rw [if_pos e]; rfl
            · rw [if_neg e, if_neg (fun x => d ⟨by simpa using e, x⟩)]; rfl
        · simp only [if_neg c2]
          have c3 := h5 (by omega)
          have hm : v.f4 % 1000 = v.f4 := by omega
          rw [hm]
          unfold ltext
          rw [hu]
          by_cases e : mk = true
          · right
            rw [if_pos e, if_neg (fun x => by rw [e] at x; exact absurd x.1 (by decide))]
            exact ⟨rfl, rfl⟩
          · have e' : mk = false := by simpa using e
            rw [if_neg e]
            by_cases d : n ≤ v.f4
            · rw [if_pos d]
              simp only
              by_cases f : n ≤ (r.length : Int)
              · left
                rw [if_pos ⟨e', d, f⟩, if_pos f]
                exact ⟨_, _, rfl, rfl, fun x hx => hrr x (List.mem_of_mem_drop hx), by rw [List.length_drop]; omega⟩
              · right
                rw [if_neg (fun x => f x.2.2), if_neg f]
                exact ⟨rfl, rfl⟩
            · right
              rw [if_neg d, if_neg (fun x => d x.2.1)]
              exact ⟨rfl, rfl⟩
theorem go_bad : ∀ (l : List S31), (∀ x ∈ l, VFew x) → arrearslaw08_QuillTakes.go l false none [] = some (none, false, []) := by
  intro l
  induction l with
  | nil => intro _; rfl
  | cons v r ih =>
    intro h
    have hv := h v (List.mem_cons_self ..)
    have hb := qtake_bad v.f0 v.f4
    rw [arrearslaw08_QuillTakes.go, if_pos ⟨hv.1, hv.2.2.2.2.1, by simp, by simp⟩, if_neg (by decide), if_pos ⟨qtake_none hb, by rw [hb]; rfl⟩, hb]
    exact ih (fun x hx => h x (List.mem_cons_of_mem _ hx))
theorem go_eq : ∀ (l : List S31) (p : List Int), (∀ x ∈ l, VFew x) → rng p → p.length ≤ 1000000 → ∃ st ok pp, arrearslaw08_QuillTakes.go l true (some p) p = some (st, ok, pp) ∧ lend st = (ok && decide (pp = [])) := by
  intro l
  induction l with
  | nil =>
    intro p _ _ _
    refine ⟨some p, true, p, rfl, ?_⟩
    cases p <;> simp [lend]
  | cons v r ih =>
    intro p h hr hp
    have hv := h v (List.mem_cons_self ..)
    have hg : (0 ≤ v.f0 ∧ v.f0 ≤ 255) ∧ (0 ≤ v.f4 ∧ v.f4 ≤ 18446744073709551615) ∧ p.length ≤ 1000000 ∧ (p.all fun x => decide (0 ≤ x ∧ x ≤ 255)) = true := ⟨hv.1, hv.2.2.2.2.1, hp, by rw [List.all_eq_true]; exact fun x hx => decide_eq_true (hr x hx)⟩
    rw [arrearslaw08_QuillTakes.go, if_pos hg, if_pos rfl]
    rcases take_same hr hv with ⟨T, R, h1, h2, h3, h4⟩ | ⟨h1, h2⟩
    · rw [h1, h2]
      simp only
      rw [if_pos (by simp [lrest])]
      exact ih R (fun x hx => h x (List.mem_cons_of_mem _ hx)) h3 (by omega)
    · rw [h1, h2]
      simp only
      rw [if_pos (by simp [lrest]), go_bad r (fun x hx => h x (List.mem_cons_of_mem _ hx))]
      exact ⟨none, false, [], rfl, rfl⟩
theorem pure_proved : arrearslaw08_QuillTakes.Pure := by
  intro l0 l1 h0 h0r h1 h1r
  refine ⟨l0.length + l1.length + 2000, ?_⟩
  have hL : ∀ x ∈ l1, VOk x := h1r
  have ha := few_all l1 hL
  have hf := few_len l1
  unfold arrearslaw08_QuillTakes.f
  rw [cut_eq 60 (by omega) l0 (by omega) _ (by omega)]
  simp only [Option.bind_some]
  rw [few_eq l1 hL (by omega) _ (by omega)]
  simp only [Option.bind_some]
  have hp : rng (l0.take (60 : Int).toNat) := fun x hx => h0r x (List.mem_of_mem_take hx)
  have hpl : (l0.take (60 : Int).toNat).length ≤ 60 := by rw [List.length_take]; omega
  generalize (l1.take 12).map fewOne = l at ha hf
  generalize l0.take (60 : Int).toNat = p at hp hpl
  rw [if_pos ⟨by omega, by rw [List.all_eq_true]; exact fun x hx => decide_eq_true (hp x hx), by omega⟩]
  obtain ⟨st, ok, pp, e, he⟩ := go_eq l p ha hp (by omega)
  rw [e]
  simp [he]

end Go.Proofs.YtdojgjbiilnjpaaDoor.PQuillTakes
