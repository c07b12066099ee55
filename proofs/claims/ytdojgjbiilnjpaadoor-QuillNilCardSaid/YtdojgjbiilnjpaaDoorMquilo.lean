import Derived.Test.YtdojgjbiilnjpaaDoorMquiln
set_option linter.unusedVariables false
set_option linter.unusedSimpArgs false
namespace Go.Proofs.YtdojgjbiilnjpaaDoor.M
open Go.RowKit Go.Proofs.YtdojgjbiilnjpaaDoorW.PrintWords Go.Proofs.YtdojgjbiilnjpaaDoorW.PrintLast Go.Proofs.YtdojgjbiilnjpaaDoorW.PrintMore
theorem Le.some_ {N : Nat} {w : World} {g : Nat} {l : List Int} (h : Le N w g (some l)) : l.length ≤ 1000000 ∧ ∀ x ∈ l, 0 ≤ x ∧ x ≤ 255 := by
  obtain ⟨A, c, h⟩ := h
  exact ⟨h.len, h.rng⟩
theorem numOf_bd {N : Nat} {w : World} {g : Nat} {s : Option (List Int)} (h : Le N w g s) {n : Int} {m : Bool} {r : List Int} (e : numOf s = some (n, m, r)) : 0 ≤ n ∧ n ≤ 18446744073709551615 := by
  rcases s with _ | l
  · cases e
  · rcases l with _ | ⟨x, t⟩
    · cases e
    · have hr := h.some_.2
      change inum (x :: t) = _ at e
      rw [inum_cons] at e
      split at e
      · cases e
      · rename_i hc
        injection e with e
        injection e with e1 e2
        subst e1
        have hg : ∀ y ∈ t.take (x % 128).toNat, 0 ≤ y ∧ y ≤ 255 := fun y hy => hr y (List.mem_cons_of_mem _ (List.mem_of_mem_take hy))
        have h8 : ¬ 8 < x % 128 := fun q => hc (Or.inl q)
        have h1 := (val_bd _ hg).1
        have h2 := val_bd8 _ hg 8 (by rw [List.length_take]; omega)
        exact ⟨h1, by omega⟩
def luint (s : Option (List Int)) (most : Int) : Int × Option (List Int) := match numOf s with
  | some (n, m, r) => if m = true then (0, none) else if n ≤ most then (n, some r) else (0, none)
  | none => (0, none)
def lint (s : Option (List Int)) : Int × Option (List Int) := match numOf s with
  | some (n, m, r) => if 9223372036854775808 ≤ n then (0, none) else if m = true then (-1 - n, some r) else (n, some r)
  | none => (0, none)
def ltext (s : Option (List Int)) (most : Int) : ByteArray × Option (List Int) := match (luint s most).2 with
  | some l => if (luint s most).1 ≤ (l.length : Int) then (strOfNums (l.take (luint s most).1.toNat), some (l.drop (luint s most).1.toNat)) else (⟨#[]⟩, none)
  | none => (⟨#[]⟩, none)
set_option maxHeartbeats 4000000 in
set_option maxRecDepth 100000 in
theorem lens_Uint (N g : Nat) (s : Option (List Int)) (most : Int) (hm : 0 ≤ most) (w : World) (h : Le N w g s) :
    Calls Tryd.prog 20 #[.pointer (some ⟨g, 0, none⟩), .int .u64 most] w fun e w' => e = .returned (.int .u64 (luint s most).1) ∧ LDone N w g (luint s most).2 w' := by
  have hc := lens_number N g s w h
  unfold luint
  rcases hs : numOf s with _ | ⟨n, m, r⟩
  · simp only [hs] at hc ⊢
    have HC := Aside0.mk hc
    have hm2 : ¬ most < 0 := by omega
    clear hc hs h
    go_enter Tryd.func20, Tryd.ntmps20
    go_wp2_with (first | (go_at_call 30; (with_reducible refine HC.out.mono ?_); rintro e w5 ⟨rfl, hd⟩; have HD := Aside0.mk hd; clear hd))
    go_ret
    exact ⟨rfl, HD.out⟩
  · simp only [hs] at hc ⊢
    have HC := Aside0.mk hc
    clear hc hs h
    cases m
    · by_cases hle : n ≤ most
      · have hle2 : ¬ most < n := by omega
        simp only [Bool.false_eq_true, if_false, if_pos hle]
        go_enter Tryd.func20, Tryd.ntmps20
        go_wp2_with (first | (go_at_call 30; (with_reducible refine HC.out.mono ?_); rintro e w5 ⟨rfl, hd⟩; have HD := Aside0.mk hd; clear hd))
        go_ret
        exact ⟨rfl, HD.out⟩
      · have hle2 : most < n := by omega
        simp only [Bool.false_eq_true, if_false, if_neg hle]
        clear hle
        go_enter Tryd.func20, Tryd.ntmps20
        go_wp2_with (first | (go_at_call 30; (with_reducible refine HC.out.mono ?_); rintro e w5 ⟨rfl, hd⟩; have HD := Aside0.mk hd; clear hd) | (go_at_call 31; refine (lens_fail_any N g _ w5 HD.out.1).mono ?_; rintro e w7 ⟨rfl, hd⟩; have HD3 := Aside0.mk hd; clear hd))
        go_ret
        exact ⟨rfl, HD.out.trans HD3.out⟩
    · simp only [if_true]
      go_enter Tryd.func20, Tryd.ntmps20
      go_wp2_with (first | (go_at_call 30; (with_reducible refine HC.out.mono ?_); rintro e w5 ⟨rfl, hd⟩; have HD := Aside0.mk hd; clear hd) | (go_at_call 31; refine (lens_fail_any N g _ w5 HD.out.1).mono ?_; rintro e w7 ⟨rfl, hd⟩; have HD3 := Aside0.mk hd; clear hd))
      go_ret
      exact ⟨rfl, HD.out.trans HD3.out⟩
set_option maxHeartbeats 4000000 in
set_option maxRecDepth 100000 in
theorem lens_Uint_nil (most : Int) (hm : 0 ≤ most) (w : World) :
    Calls Tryd.prog 20 #[.pointer none, .int .u64 most] w fun e w' => e = .returned (.int .u64 0) ∧ w = w' := by
  have HC := Aside0.mk (lens_number_nil w)
  have hm2 : ¬ most < 0 := by omega
  go_enter Tryd.func20, Tryd.ntmps20
  go_wp2_with (first | (go_at_call 30; (with_reducible refine HC.out.mono ?_); rintro e w5 ⟨rfl, rfl⟩))
  go_ret
  exact ⟨rfl, rfl⟩
set_option maxHeartbeats 4000000 in
set_option maxRecDepth 100000 in
theorem lens_Int (N g : Nat) (s : Option (List Int)) (w : World) (h : Le N w g s) :
    Calls Tryd.prog 21 #[.pointer (some ⟨g, 0, none⟩)] w fun e w' => e = .returned (.int .i64 (lint s).1) ∧ LDone N w g (lint s).2 w' := by
  have hc := lens_number N g s w h
  unfold lint
  rcases hs : numOf s with _ | ⟨n, m, r⟩
  · simp only [hs] at hc ⊢
    have HC := Aside0.mk hc
    clear hc hs h
    go_enter Tryd.func21, Tryd.ntmps21
    go_wp2_with (first | (go_at_call 30; (with_reducible refine HC.out.mono ?_); rintro e w5 ⟨rfl, hd⟩; have HD := Aside0.mk hd; clear hd))
    go_ret
    exact ⟨rfl, HD.out⟩
  · have hbd := numOf_bd h hs
    have hn0 : 0 ≤ n := hbd.1
    have hn1 : n ≤ 18446744073709551615 := hbd.2
    simp only [hs] at hc ⊢
    have HC := Aside0.mk hc
    clear hc hs h hbd
    by_cases hbig : 9223372036854775808 ≤ n
    · simp only [if_pos hbig]
      go_enter Tryd.func21, Tryd.ntmps21
      go_wp2_with (first | (go_at_call 30; (with_reducible refine HC.out.mono ?_); rintro e w5 ⟨rfl, hd⟩; have HD := Aside0.mk hd; clear hd) | (go_at_call 31; refine (lens_fail_any N g _ w5 HD.out.1).mono ?_; rintro e w7 ⟨rfl, hd⟩; have HD3 := Aside0.mk hd; clear hd))
      go_ret
      exact ⟨rfl, HD.out.trans HD3.out⟩
    · simp only [if_neg hbig]
      have hw : wrap64 n = n := by unfold wrap64; omega
      have hw2 : wrap64 (-1 - n) = -1 - n := by unfold wrap64; omega
      cases m
      · simp only [Bool.false_eq_true, if_false]
        go_enter Tryd.func21, Tryd.ntmps21
        go_wp2_with (first | (go_at_call 30; (with_reducible refine HC.out.mono ?_); rintro e w5 ⟨rfl, hd⟩; have HD := Aside0.mk hd; clear hd))
        go_ret
        exact ⟨rfl, HD.out⟩
      · simp only [if_true]
        go_enter Tryd.func21, Tryd.ntmps21
        go_wp2_with (first | (go_at_call 30; (with_reducible refine HC.out.mono ?_); rintro e w5 ⟨rfl, hd⟩; have HD := Aside0.mk hd; clear hd))
        go_ret
        exact ⟨rfl, HD.out⟩

end Go.Proofs.YtdojgjbiilnjpaaDoor.M
