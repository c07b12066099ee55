import Derived.Test.YtdojgjbiilnjpaaDoorMquilo
set_option linter.unusedVariables false
set_option linter.unusedSimpArgs false
namespace Go.Proofs.YtdojgjbiilnjpaaDoor.M
open Go.RowKit Go.Proofs.YtdojgjbiilnjpaaDoorW.PrintWords Go.Proofs.YtdojgjbiilnjpaaDoorW.PrintLast Go.Proofs.YtdojgjbiilnjpaaDoorW.PrintMore
set_option maxHeartbeats 4000000 in
set_option maxRecDepth 100000 in
theorem lens_Int_nil (w : World) :
    Calls Tryd.prog 21 #[.pointer none] w fun e w' => e = .returned (.int .i64 0) ∧ w = w' := by
  have HC := Aside0.mk (lens_number_nil w)
  go_enter Tryd.func21, Tryd.ntmps21
  go_wp2_with (first | (go_at_call 30; (with_reducible refine HC.out.mono ?_); rintro e w5 ⟨rfl, rfl⟩))
  go_ret
  exact ⟨rfl, rfl⟩
set_option maxHeartbeats 4000000 in
set_option maxRecDepth 100000 in
theorem lens_Flag (N g : Nat) (s : Option (List Int)) (w : World) (h : Le N w g s) :
    Calls Tryd.prog 22 #[.pointer (some ⟨g, 0, none⟩)] w fun e w' => e = .returned (.bool ((luint s 1).1 == 1)) ∧ LDone N w g (luint s 1).2 w' := by
  have HC := Aside0.mk (lens_Uint N g s 1 (by omega) w h)
  go_enter Tryd.func22, Tryd.ntmps22
  go_wp2_with (first | (go_at_call 20; (with_reducible refine HC.out.mono ?_); rintro e w5 ⟨rfl, hd⟩; have HD := Aside0.mk hd; clear hd))
  go_ret
  exact ⟨rfl, HD.out⟩
set_option maxHeartbeats 4000000 in
set_option maxRecDepth 100000 in
theorem lens_Flag_nil (w : World) :
    Calls Tryd.prog 22 #[.pointer none] w fun e w' => e = .returned (.bool false) ∧ w = w' := by
  have HC := Aside0.mk (lens_Uint_nil 1 (by omega) w)
  go_enter Tryd.func22, Tryd.ntmps22
  go_wp2_with (first | (go_at_call 20; (with_reducible refine HC.out.mono ?_); rintro e w5 ⟨rfl, rfl⟩))
  go_ret
  exact ⟨rfl, rfl⟩
theorem luint_bd {N : Nat} {w : World} {g : Nat} {s : Option (List Int)} (h : Le N w g s) (most : Int) : 0 ≤ (luint s most).1 ∧ (luint s most).1 ≤ 18446744073709551615 := by
  unfold luint
  rcases hs : numOf s with _ | ⟨n, m, r⟩
  · exact ⟨by simp, by simp⟩
  · have := numOf_bd h hs
    simp only
    split
    · exact ⟨by simp, by simp⟩
    · split
      · exact this
      · exact ⟨by simp, by simp⟩
theorem luint_none {s : Option (List Int)} {most : Int} (h : (luint s most).2 = none) : (luint s most).1 = 0 := by
  unfold luint at h ⊢
  rcases hs : numOf s with _ | ⟨n, m, r⟩
  · rfl
  · simp only [hs] at h ⊢
    split
    · rfl
    · split
      · rename_i c1 c2
        rw [if_neg c1, if_pos c2] at h
        cases h
      · rfl
set_option maxHeartbeats 4000000 in
set_option maxRecDepth 100000 in
theorem lens_Text (N g : Nat) (s : Option (List Int)) (most : Int) (hm : 0 ≤ most) (hm2 : most ≤ 9223372036854775807) (w : World) (h : Le N w g s) :
    Calls Tryd.prog 23 #[.pointer (some ⟨g, 0, none⟩), .int .i64 most] w fun e w' => e = .returned (.string (ltext s most).1) ∧ LDone N w g (ltext s most).2 w' := by
  have hbd := luint_bd h most
  have HC := Aside0.mk (lens_Uint N g s most hm w h)
  have hmx : max most 0 = most := by omega
  have hmx2 : ¬ most < 0 := by omega
  have hmw : IntKind.u64.wrap most = most := by rw [IntKind.wrap_u64]; omega
  unfold ltext
  rcases hu2 : (luint s most).2 with _ | l
  · have hu1 := luint_none hu2
    rw [hu1, hu2] at HC
    clear hbd h hu1 hu2
    simp only []
    go_enter Tryd.func23, Tryd.ntmps23
    go_wp2_with (first | (go_at_call 20; (with_reducible refine HC.out.mono ?_); rintro e w5 ⟨rfl, hd⟩; obtain ⟨A2, c2, hL2⟩ := hd.1; have hc5 : w5.cell? ⟨g, 0, none⟩ = some (.slice A2 0 c2) := blk_cell hL2.blk 0; have HD := Aside0.mk hd; have HL2 := Aside0.mk hL2; clear hd hL2) | (go_at_call 32; refine (lens_take_bad N g A2 c2 0 w5 HL2.out).mono ?_; rintro e w6 ⟨rfl, hd⟩; have HD2 := Aside0.mk hd; clear hd hc5; have hsc : (convert 22 9 (.slice none 0 0)).run Tryd.prog w6 = .ok (.string ⟨#[]⟩) w6 := run_convert_bytes_nil w6 22 5 Tryd.underlying22 Tryd.underlying5 0 0 9 Tryd.underlying9))
    go_ret
    exact ⟨rfl, HD.out.trans HD2.out⟩
  · rw [hu2] at HC
    generalize (luint s most).1 = n at hbd HC ⊢
    have hn0 : 0 ≤ n := hbd.1
    have hn1 : n ≤ 18446744073709551615 := hbd.2
    clear hbd h hu2
    simp only []
    by_cases hle : n ≤ (l.length : Int)
    · rw [if_pos hle]
      obtain ⟨S, hS⟩ : ∃ S, S = strOfNums (l.take n.toNat) := ⟨_, rfl⟩
      rw [← hS]
      have HSS := Aside0.mk hS
      have HLE := Aside0.mk hle
      obtain ⟨L, hL⟩ : ∃ z : Int, z = (l.length : Nat) := ⟨_, rfl⟩
      have hle2 : ¬ (l.length : Int) < n := by omega
      clear hS hL hle
      go_enter Tryd.func23, Tryd.ntmps23
      go_wp2_with (first | (go_at_call 20; (with_reducible refine HC.out.mono ?_); rintro e w5 ⟨rfl, hd⟩; obtain ⟨A2, c2, hL2⟩ := hd.1; have hc5 : w5.cell? ⟨g, 0, none⟩ = some (.slice A2 l.length c2) := blk_cell hL2.blk 0; have hlw : IntKind.u64.wrap (l.length : Int) = (l.length : Int) := (by have := hL2.len; rw [IntKind.wrap_u64]; omega); have hnw : wrap64 n = n := (by have := hL2.len; have := HLE.out; unfold wrap64; omega); have HD := Aside0.mk hd; have HL2 := Aside0.mk hL2; clear hd hL2) | (go_at_call 32; refine (lens_take_ok N g l A2 c2 n w5 hn0 HLE.out HL2.out).mono ?_; rintro e w6 ⟨rfl, hd, hr⟩; have hlt : (l.take n.toNat).length = n.toNat := (by have := HLE.out; rw [List.length_take]; omega); have hrd := hr.reads (by have := HL2.out.len; omega); rw [hlt] at hrd; have hsc : (convert 22 9 (.slice A2 n.toNat n.toNat)).run Tryd.prog w6 = .ok (.string S) w6 := (by rw [HSS.out]; exact string_of_reads Tryd.underlying22 Tryd.underlying5 Tryd.underlying9 hrd); have HD2 := Aside0.mk hd; clear hd hr hc5 hrd hlt))
      go_ret
      exact ⟨rfl, HD.out.trans HD2.out⟩
    · rw [if_neg hle]
      have hle2 : (l.length : Int) < n := by omega
      clear hle
      go_enter Tryd.func23, Tryd.ntmps23
      go_wp2_with (first | (go_at_call 20; (with_reducible refine HC.out.mono ?_); rintro e w5 ⟨rfl, hd⟩; obtain ⟨A2, c2, hL2⟩ := hd.1; have hc5 : w5.cell? ⟨g, 0, none⟩ = some (.slice A2 l.length c2) := blk_cell hL2.blk 0; have hlw : IntKind.u64.wrap (l.length : Int) = (l.length : Int) := (by have := hL2.len; rw [IntKind.wrap_u64]; omega); have HD := Aside0.mk hd; have HL2 := Aside0.mk hL2; clear hd hL2) | (go_at_call 31; refine (lens_fail_any N g _ w5 HD.out.1).mono ?_; rintro e w7 ⟨rfl, hd⟩; have HD3 := Aside0.mk hd; clear hd))
      go_ret
      exact ⟨rfl, HD.out.trans HD3.out⟩
set_option maxHeartbeats 4000000 in
set_option maxRecDepth 100000 in
theorem lens_Text_nil (most : Int) (hm1 : -9223372036854775808 ≤ most) (hm2 : most ≤ 9223372036854775807) (w : World) :
    Calls Tryd.prog 23 #[.pointer none, .int .i64 most] w fun e w' => e = .returned (.string ⟨#[]⟩) ∧ w = w' := by
  have HC := Aside0.mk (fun m hm => lens_Uint_nil m hm w)
  have HF := Aside0.mk (lens_fail_nil w)
  by_cases hm : most < 0
  · go_enter Tryd.func23, Tryd.ntmps23
    go_wp2_with (first | (go_at_call 20; refine (HC.out _ (by first | omega | (rw [IntKind.wrap_u64]; omega))).mono ?_; rintro e w5 ⟨rfl, rfl⟩) | (go_at_call 31; refine HF.out.mono ?_; rintro e w5 ⟨rfl, rfl⟩))
    go_ret
    exact ⟨rfl, rfl⟩
  · have hmw : IntKind.u64.wrap most = most := by rw [IntKind.wrap_u64]; omega
    go_enter Tryd.func23, Tryd.ntmps23
    go_wp2_with (first | (go_at_call 20; refine (HC.out _ (by first | omega | (rw [IntKind.wrap_u64]; omega))).mono ?_; rintro e w5 ⟨rfl, rfl⟩) | (go_at_call 31; refine HF.out.mono ?_; rintro e w5 ⟨rfl, rfl⟩))
    go_ret
    exact ⟨rfl, rfl⟩
def lrest (s : Option (List Int)) : Int := match s with | some l => (l.length : Int) | none => 0
set_option maxHeartbeats 4000000 in
set_option maxRecDepth 100000 in
theorem lens_Rest (N g : Nat) (s : Option (List Int)) (w : World) (h : Le N w g s) :
    Calls Tryd.prog 11 #[.pointer (some ⟨g, 0, none⟩)] w fun e w' => e = .returned (.int .i64 (lrest s)) ∧ w = w' := by
  obtain ⟨A, c, h⟩ := h
  rcases s with _ | l
  · have hc5 : w.cell? ⟨g, 0, none⟩ = some (.slice A 0 c) := blk_cell h.blk 0
    clear h
    go_enter Tryd.func11, Tryd.ntmps11
    go_wp2
    go_ret
    exact ⟨rfl, rfl⟩
  · have hc5 : w.cell? ⟨g, 0, none⟩ = some (.slice A l.length c) := blk_cell h.blk 0
    clear h
    go_enter Tryd.func11, Tryd.ntmps11
    go_wp2
    go_ret
    exact ⟨rfl, rfl⟩
set_option maxHeartbeats 4000000 in
set_option maxRecDepth 100000 in
theorem lens_Rest_nil (w : World) :
    Calls Tryd.prog 11 #[.pointer none] w fun e w' => e = .returned (.int .i64 0) ∧ w = w' := by
  go_enter Tryd.func11, Tryd.ntmps11
  go_wp2
  go_ret
  exact ⟨rfl, rfl⟩
def lend (s : Option (List Int)) : Bool := s == some []
def formErr : Value := .iface 39 (.int .i64 2)
set_option maxHeartbeats 4000000 in
set_option maxRecDepth 100000 in
theorem lens_End (N g : Nat) (s : Option (List Int)) (w : World) (h : Le N w g s) :
    Calls Tryd.prog 12 #[.pointer (some ⟨g, 0, none⟩)] w fun e w' => e = .returned (if lend s = true then .nilIface else formErr) ∧ w = w' := by
  obtain ⟨A, c, h⟩ := h
  unfold lend formErr
  rcases s with _ | l
  · have hc5 : w.cell? ⟨g, 0, none⟩ = some (.slice A 0 c) := blk_cell h.blk 0
    have hc6 : w.cell? ⟨g, 1, none⟩ = some (.bool true) := blk_cell h.blk 1
    clear h
    go_enter Tryd.func12, Tryd.ntmps12
    go_wp2
    go_ret
    exact ⟨rfl, rfl⟩
  · rcases l with _ | ⟨x, r⟩
    · have hc5 : w.cell? ⟨g, 0, none⟩ = some (.slice A 0 c) := blk_cell h.blk 0
      have hc6 : w.cell? ⟨g, 1, none⟩ = some (.bool false) := blk_cell h.blk 1
      clear h
      go_enter Tryd.func12, Tryd.ntmps12
      go_wp2
      go_ret
      exact ⟨rfl, rfl⟩
    · have hc5 : w.cell? ⟨g, 0, none⟩ = some (.slice A (r.length + 1) c) := blk_cell h.blk 0
      have hc6 : w.cell? ⟨g, 1, none⟩ = some (.bool false) := blk_cell h.blk 1
      have hpos : (0 : Int) < ((r.length + 1 : Nat) : Int) := by omega
      generalize r.length + 1 = n at hc5 hpos
      clear h
      go_enter Tryd.func12, Tryd.ntmps12
      go_wp2
      go_ret
      exact ⟨rfl, rfl⟩
set_option maxHeartbeats 4000000 in
set_option maxRecDepth 100000 in
theorem lens_End_nil (w : World) :
    Calls Tryd.prog 12 #[.pointer none] w fun e w' => e = .returned formErr ∧ w = w' := by
  unfold formErr
  go_enter Tryd.func12, Tryd.ntmps12
  go_wp2
  go_ret
  exact ⟨rfl, rfl⟩
set_option maxHeartbeats 4000000 in
set_option maxRecDepth 100000 in
theorem quill_LookC (v : Value) (l : List Int) (w : World) (HC : Aside0 (Calls Tryd.prog 26 #[v] w fun e w' => ∃ v', e = .returned v' ∧ Bys w' v' l ∧ (∀ k, v'.ownBlock = some k → w.heap.size ≤ k) ∧ Below w.heap.size w w')) (hl : l.length ≤ 1000000) (hr : ∀ x ∈ l, 0 ≤ x ∧ x ≤ 255) :
    Calls Tryd.prog 8 #[v] w fun e w' => ∃ g, e = .returned (.pointer (some ⟨g, 0, none⟩)) ∧ w.heap.size ≤ g ∧ Le g w' g (some l) ∧ Below w.heap.size w w' := by
  have HL := Aside0.mk hl
  have HR := Aside0.mk hr
  clear hl hr
  go_enter Tryd.func8, Tryd.ntmps8
  go_wp2_with (first | (go_at_call 26; refine HC.out.mono ?_; rintro e w5 ⟨v5, rfl, h1, h2, h3⟩; obtain ⟨A2, c2, ev5, hc2, _⟩ := h1.slice; have h1' := h1; have hl1 := ev5; generalize hl0 : l.length = L at ev5; subst ev5; have H0 := Aside0.mk hl0; have H1 := Aside0.mk h1; have H2 := Aside0.mk h2; have H3 := Aside0.mk h3; have H4 := Aside0.mk hc2; clear h1 h1' h2 h3 hc2 hl1 hl0))
  go_ret
  refine ⟨w5.heap.size, rfl, H3.out.size, ⟨A2, c2, ?_, H4.out, ?_, HL.out, HR.out⟩, H3.out.alloc H3.out.size _⟩
  · rw [H0.out]
    exact blk_new w5 _
  · have h5 := H1.out
    rw [← H0.out] at h5
    exact (RowB.of h5).move fun b cur hb _ => Below.heap_alloc _ _ _ hb
theorem quill_Look (v : Value) (l : List Int) (w : World) (h : Bys w v l) (hl : l.length ≤ 1000000) (hr : ∀ x ∈ l, 0 ≤ x ∧ x ≤ 255) :
    Calls Tryd.prog 8 #[v] w fun e w' => ∃ g, e = .returned (.pointer (some ⟨g, 0, none⟩)) ∧ w.heap.size ≤ g ∧ Le g w' g (some l) ∧ Below w.heap.size w w' :=
  quill_LookC v l w ⟨bytes_Clone_row v l w h (by omega)⟩ hl hr
/-- Look at bytes that are read (not the call's own). -/
theorem quill_LookR (A : Option Addr) (n c : Nat) (l : List Int) (w : World) (h : ReadsInt w .u8 A n l) (hl : l.length ≤ 1000000) (hr : ∀ x ∈ l, 0 ≤ x ∧ x ≤ 255) :
    Calls Tryd.prog 8 #[.slice A n c] w fun e w' => ∃ g, e = .returned (.pointer (some ⟨g, 0, none⟩)) ∧ w.heap.size ≤ g ∧ Le g w' g (some l) ∧ Below w.heap.size w w' := by
  refine quill_LookC _ l w ⟨?_⟩ hl hr
  have hn : l.length = n := h.1
  subst hn
  cases A with
  | none =>
    have hl0 : l = [] := by
      rcases l with _ | ⟨x, r⟩
      · rfl
      · obtain ⟨ad, e, _⟩ := h.2.2 (by simp)
        cases e
    subst hl0
    refine (Tryd.bytes_Clone_nil _ _ w).mono ?_
    rintro e w' ⟨rfl, rfl⟩
    exact ⟨_, rfl, Bys.nil _, fun k hk => by simp [Value.ownBlock] at hk, Below.refl _ _⟩
  | some ad =>
    refine (Tryd.bytes_Clone_at ad l.length c l w rfl (by omega) (fun i hi => ?_)).mono ?_
    · obtain ⟨ad2, e, hc2⟩ := h.2.2 (by omega)
      injection e with e
      subst e
      exact hc2 i hi
    · rintro e w' ⟨v', rfl, ho, _, hb⟩
      exact ⟨v', rfl, Bys.of ho, fun k hk => own_base ho k hk, hb⟩

end Go.Proofs.YtdojgjbiilnjpaaDoor.M
