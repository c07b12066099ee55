import Derived.Test.YtdojgjbiilnjpaaDoorMquilw
import Derived.Lib.AppendStr
set_option linter.unusedVariables false
set_option linter.unusedSimpArgs false
namespace Go.Proofs.YtdojgjbiilnjpaaDoor.M
open Go.RowKit Go.Proofs.YtdojgjbiilnjpaaDoorW.PrintWords Go.Proofs.YtdojgjbiilnjpaaDoorW.PrintLast Go.Proofs.YtdojgjbiilnjpaaDoorW.PrintMore
theorem byt_under : Tryd.prog.underlying 5 = some (.int .u8) := Tryd.underlying5
/-- append(row, s...): where the new row lies, too. -/
theorem run_append_str (w : World) (v : Value) (l : List Int) (s : ByteArray) (ty : TypeId) (h : Bys w v l) (hl : l.length + s.size ≤ 140737488355328) :
    ∃ v' w', (Builtin.append_ #[22, 9] ty #[v, .string s]).run Tryd.prog w = .ok v' w' ∧ Bys w' v' (l ++ bytesOf s) ∧ w.grownBy w' v.ownBlock ∧ Since w v v' := by
  obtain ⟨i0, hi, hzz⟩ := Option.map_eq_some_iff.1 byt_info
  simp only [Prod.mk.injEq] at hzz
  obtain ⟨hz0, hz1, hz2⟩ := hzz
  have ht := Tryd.underlying22
  have hu := Tryd.underlying9
  obtain ⟨v', w', hr, h2, h3, h4⟩ := Lib.run_append_own_string (P := Tryd.prog) w 0 22 9 ty 5 i0 ht hu hi hz0 hz1 hz2 v l.length (nums .u8 l) h s (by simp only [maxLen]; omega) (by omega) (Nat.zero_le _)
  refine ⟨v', w', hr, ?_, h3, ?_⟩
  · unfold Bys
    rw [List.length_append, bytesOf_length, nums_append]
    simpa [nums, bytesOf, Lib.strCells, Function.comp_def] using h2
  · rcases h.2 with ⟨rfl, hn⟩ | ⟨g, cap, cur, rfl, hbg, hg, hnc, hcm, hcs, htake⟩
    · by_cases hm : s.size = 0
      · exact .inl (by rw [h4.2 ⟨rfl, hm⟩])
      · have hr2 := run_append_nil_string (P := Tryd.prog) w 22 9 ty 5 i0 (.int .u8 0) ht hu hi hz0 s (by omega) (by omega) (by rw [hz2]; omega)
        have e := hr.symm.trans hr2
        injection e with e1 e2
        subst e1
        exact .inr ⟨_, rfl, Nat.le_refl _⟩
    · by_cases hroom : l.length + s.size ≤ cap
      · have hr2 := Lib.run_append_room_string (P := Tryd.prog) w 22 9 ty 5 i0 ht hu hi hz1 g l.length cap cur hg s hroom (by omega)
        have e := hr.symm.trans hr2
        injection e with e1 e2
        subst e1
        exact .inl rfl
      · have holds : ∀ j u, (nums .u8 l)[j]? = some u → w.cell? ((⟨g, 0, none⟩ : Addr).add j) = some u := World.ownsRow.cells h (g := g) rfl
        have hr2 := Lib.run_append_grow_string (P := Tryd.prog) w 22 9 ty 5 i0 (.int .u8 0) ht hu hi hz0 ⟨g, 0, none⟩ l.length cap (nums .u8 l) (by rw [hz1]; simp [nums]) holds s (by omega) (by omega) (by rw [hz2]; exact growslice_fits (by omega) (by omega))
        have e := hr.symm.trans hr2
        injection e with e1 e2
        subst e1
        exact .inr ⟨_, rfl, Nat.le_refl _⟩
section
variable {ops : Array Oper} {rest : List Oper} {o : Oper} {a : Act} {Q : Exit → Act → World → Prop}
theorem app_str {W : World} (hgd : o.guard = none) (s x : Operand) (ho : o.op = .call { callee := .builtin .append, args := #[s, x], argTypes := #[22, 9] })
    (v : Value) (l : List Int) (y : ByteArray) (hs : a.eval s = v) (hx : a.eval x = .string y) (HO : Bys W v l) (hl : l.length + y.size ≤ 140737488355328)
    (h : ∀ v1 w1, Bys w1 v1 (l ++ bytesOf y) → W.grownBy w1 v.ownBlock → Since W v v1 → wpList Tryd.prog ops Q rest (a.put o.dst v1) w1) : wpList Tryd.prog ops Q (o :: rest) a W := by
  obtain ⟨v1, w1, hr, h1, h2, h3⟩ := run_append_str W v l y o.type HO hl
  refine wpList_plain hgd fun K hK => ?_
  unfold Oper.wp execOp
  simp only [ho, resolve, invoke, builtin, Sem.run_bind, Sem.run_pure, Result.andThen_ok, List.map_toArray, List.map_cons, List.map_nil, hs, hx, hr]
  exact hK _ _ (h v1 w1 h1 h2 h3)
end
/-- What a writing call leaves. -/
def QDone (w : World) (g : Nat) (v : Value) (l : List Int) (w' : World) : Prop := ∃ v', Qu w' g v' l ∧ KeepQ w w' g v.ownBlock ∧ Since w v v'
theorem QDone.trans {w w1 w2 : World} {g : Nat} {v v1 : Value} {l2 : List Int} (hk : KeepQ w w1 g v.ownBlock) (hs : Since w v v1) (h : QDone w1 g v1 l2 w2) : QDone w g v l2 w2 := by
  obtain ⟨v2, hq, hk2, hs2⟩ := h
  exact ⟨v2, hq, hk.trans hk2 hs.row, hs.trans hs2 hk.size⟩
theorem quill_num (n mark : Int) (h0 : 0 ≤ n) (h1 : n ≤ 18446744073709551615) (hm0 : 0 ≤ mark) (hm : mark ≤ 128) (g : Nat) (v : Value) (l : List Int) (w : World) (hl : l.length ≤ 1000000) (hq : Qu w g v l) :
    Calls Tryd.prog 29 #[.pointer (some ⟨g, 0, none⟩), .int .u64 n, .int .u8 mark] w fun e w' => e = .returned (.pointer (some ⟨g, 0, none⟩)) ∧ QDone w g v (l ++ nlay n.toNat mark.toNat) w' := by
  obtain ⟨m, rfl⟩ := Int.eq_ofNat_of_zero_le h0
  obtain ⟨k, rfl⟩ := Int.eq_ofNat_of_zero_le hm0
  exact quill_number m k g v l w (by omega) (by omega) hl hq
set_option maxHeartbeats 4000000 in
set_option maxRecDepth 100000 in
theorem quill_Uint (n : Int) (h0 : 0 ≤ n) (h1 : n ≤ 18446744073709551615) (g : Nat) (v : Value) (l : List Int) (w : World) (hl : l.length ≤ 1000000) (hq : Qu w g v l) :
    Calls Tryd.prog 15 #[.pointer (some ⟨g, 0, none⟩), .int .u64 n] w fun e w' => e = .returned (.pointer (some ⟨g, 0, none⟩)) ∧ QDone w g v (l ++ nlay n.toNat 0) w' := by
  have HC := Aside0.mk (quill_num n 0 h0 h1 (by omega) (by omega) g v l w hl hq)
  go_enter Tryd.func15, Tryd.ntmps15
  go_wp2_with (go_at_call 29; refine HC.out.mono ?_; rintro e w5 ⟨rfl, hd⟩; have HD := Aside0.mk hd; clear hd)
  go_ret
  exact ⟨rfl, HD.out⟩
set_option maxHeartbeats 4000000 in
set_option maxRecDepth 100000 in
theorem quill_Uint_nil (n : Int) (w : World) :
    Calls Tryd.prog 15 #[.pointer none, .int .u64 n] w fun e w' => e = .returned (.pointer none) ∧ w = w' := by
  have HC := Aside0.mk (quill_number_nil n 0 w)
  go_enter Tryd.func15, Tryd.ntmps15
  go_wp2_with (go_at_call 29; refine HC.out.mono ?_; rintro e w5 ⟨rfl, rfl⟩)
  go_ret
  exact ⟨rfl, rfl⟩
/-- A number with its sign, as bytes. -/
def qint (n : Int) : List Int := if n < 0 then nlay (-1 - n).toNat 128 else nlay n.toNat 0
set_option maxHeartbeats 4000000 in
set_option maxRecDepth 100000 in
theorem quill_Int (n : Int) (h0 : -9223372036854775808 ≤ n) (h1 : n ≤ 9223372036854775807) (g : Nat) (v : Value) (l : List Int) (w : World) (hl : l.length ≤ 1000000) (hq : Qu w g v l) :
    Calls Tryd.prog 16 #[.pointer (some ⟨g, 0, none⟩), .int .i64 n] w fun e w' => e = .returned (.pointer (some ⟨g, 0, none⟩)) ∧ QDone w g v (l ++ qint n) w' := by
  unfold qint
  by_cases hn : n < 0
  · have e1 : wrap64 (-1 - n) = -1 - n := by unfold wrap64; omega
    have e2 : IntKind.u64.wrap (-1 - n) = -1 - n := by rw [IntKind.wrap_u64]; omega
    rw [if_pos hn]
    have HC := Aside0.mk (quill_num (-1 - n) 128 (by omega) (by omega) (by omega) (by omega) g v l w hl hq)
    go_enter Tryd.func16, Tryd.ntmps16
    go_wp2_with (go_at_call 29; refine HC.out.mono ?_; rintro e w5 ⟨rfl, hd⟩; have HD := Aside0.mk hd; clear hd)
    go_ret
    exact ⟨rfl, HD.out⟩
  · have e2 : IntKind.u64.wrap n = n := by rw [IntKind.wrap_u64]; omega
    rw [if_neg hn]
    have HC := Aside0.mk (quill_num n 0 (by omega) (by omega) (by omega) (by omega) g v l w hl hq)
    go_enter Tryd.func16, Tryd.ntmps16
    go_wp2_with (go_at_call 29; refine HC.out.mono ?_; rintro e w5 ⟨rfl, hd⟩; have HD := Aside0.mk hd; clear hd)
    go_ret
    exact ⟨rfl, HD.out⟩
set_option maxHeartbeats 4000000 in
set_option maxRecDepth 100000 in
theorem quill_Int_nil (n : Int) (w : World) :
    Calls Tryd.prog 16 #[.pointer none, .int .i64 n] w fun e w' => e = .returned (.pointer none) ∧ w = w' := by
  have HC := Aside0.mk (fun m k => quill_number_nil m k w)
  by_cases hn : n < 0
  all_goals
    go_enter Tryd.func16, Tryd.ntmps16
    go_wp2_with (go_at_call 29; refine (HC.out _ _).mono ?_; rintro e w5 ⟨rfl, rfl⟩)
    go_ret
    exact ⟨rfl, rfl⟩
set_option maxHeartbeats 4000000 in
set_option maxRecDepth 100000 in
theorem quill_Flag (b : Bool) (g : Nat) (v : Value) (l : List Int) (w : World) (hl : l.length ≤ 1000000) (hq : Qu w g v l) :
    Calls Tryd.prog 17 #[.pointer (some ⟨g, 0, none⟩), .bool b] w fun e w' => e = .returned (.pointer (some ⟨g, 0, none⟩)) ∧ QDone w g v (l ++ nlay (if b then 1 else 0) 0) w' := by
  cases b
  · have HC := Aside0.mk (quill_Uint 0 (by omega) (by omega) g v l w hl hq)
    go_enter Tryd.func17, Tryd.ntmps17
    go_wp2_with (go_at_call 15; refine HC.out.mono ?_; rintro e w5 ⟨rfl, hd⟩; have HD := Aside0.mk hd; clear hd)
    go_ret
    exact ⟨rfl, HD.out⟩
  · have HC := Aside0.mk (quill_Uint 1 (by omega) (by omega) g v l w hl hq)
    go_enter Tryd.func17, Tryd.ntmps17
    go_wp2_with (go_at_call 15; refine HC.out.mono ?_; rintro e w5 ⟨rfl, hd⟩; have HD := Aside0.mk hd; clear hd)
    go_ret
    exact ⟨rfl, HD.out⟩
set_option maxHeartbeats 4000000 in
set_option maxRecDepth 100000 in
theorem quill_Flag_nil (b : Bool) (w : World) :
    Calls Tryd.prog 17 #[.pointer none, .bool b] w fun e w' => e = .returned (.pointer none) ∧ w = w' := by
  have HC := Aside0.mk (fun m => quill_Uint_nil m w)
  cases b
  all_goals
    go_enter Tryd.func17, Tryd.ntmps17
    go_wp2_with (go_at_call 15; refine (HC.out _).mono ?_; rintro e w5 ⟨rfl, rfl⟩)
    go_ret
    exact ⟨rfl, rfl⟩
set_option maxHeartbeats 4000000 in
set_option maxRecDepth 100000 in
theorem quill_Text (s : ByteArray) (hs : s.size ≤ 100000) (g : Nat) (v : Value) (l : List Int) (w : World) (hl : l.length ≤ 1000000) (hq : Qu w g v l) :
    Calls Tryd.prog 18 #[.pointer (some ⟨g, 0, none⟩), .string s] w fun e w' => e = .returned (.pointer (some ⟨g, 0, none⟩)) ∧ QDone w g v (l ++ nlay s.size 0 ++ bytesOf s) w' := by
  obtain ⟨n, hn⟩ : ∃ z : Int, z = (s.size : Nat) := ⟨_, rfl⟩
  have e2 : IntKind.u64.wrap n = n := by rw [IntKind.wrap_u64]; omega
  have HC := Aside0.mk (quill_Uint n (by omega) (by omega) g v l w hl hq)
  have hn0 : n.toNat = s.size := by omega
  have hn8 : (nlay s.size 0).length ≤ 9 := by
    unfold nlay
    rw [List.length_cons, nby_len]
    have := nsz_le s.size (by omega)
    omega
  rw [hn0] at HC
  have HN := Aside0.mk hn.symm
  clear hn hn0
  go_enter Tryd.func18, Tryd.ntmps18
  go_wp2_with (first | (go_at_call 15; (try rw [HN.out]); (try rw [e2]); refine HC.out.mono ?_; rintro e w5 ⟨rfl, v5, hq5, hk5, hs5⟩; have HQ := Aside0.mk hq5; have HK := Aside0.mk hk5; have HS := Aside0.mk hs5; have hc0 : w5.cell? ⟨g, 0, none⟩ = some v5 := blk_cell hq5.blk 0; have hf0 := blk_frozen hq5.blk 0; clear hq5 hk5 hs5) | ((with_reducible refine gate_builtin (b := .append) (xs := #[.tmp 15, .tmp 16]) rfl ?_); at_builtin; go_loud (refine app_str rfl (.tmp 15) (.tmp 16) rfl v5 (l ++ nlay s.size 0) s rfl rfl HQ.out.row ?aL ?_); (case aL => rw [List.length_append]; omega); intro v1 w1 hown hg hat; generalize hn1 : l ++ nlay s.size 0 ++ bytesOf s = l1 at hown; obtain ⟨A1, cc1, ev1, _, _⟩ := hown.slice; generalize l1.length = n1 at ev1; subst ev1; have HL1 := Aside0.mk hn1; clear hn1; have hblk := (hg.block g (blk_lt HQ.out.blk) (HQ.out.ne HQ.out.row)).trans HQ.out.blk; have hf1 := blk_frozen hblk 0; have hc1 : w1.cell? ⟨g, 0, none⟩ = some v5 := blk_cell hblk 0; have HOWN := Aside0.mk hown; have HBLK := Aside0.mk hblk; have HGR := Aside0.mk hg; have HAT := Aside0.mk hat; clear hown hblk hg hat))
  go_ret
  refine ⟨rfl, QDone.trans HK.out HS.out ⟨_, ⟨blk_put HBLK.out 0 _ rfl, ?_⟩, ((KeepQ.refl w5 g v5.ownBlock).grown HGR.out (.inl rfl)).set _ _, HAT.out⟩⟩
  rw [HL1.out]
  exact HOWN.out.move fun k hk => Below.heap_setCell _ _ _ _ (fun e => by subst e; exact hq1 HOWN.out HBLK.out hk)
set_option maxHeartbeats 4000000 in
set_option maxRecDepth 100000 in
theorem quill_Text_nil (s : ByteArray) (w : World) :
    Calls Tryd.prog 18 #[.pointer none, .string s] w fun e w' => e = .returned (.pointer none) ∧ w = w' := by
  have HC := Aside0.mk (fun m => quill_Uint_nil m w)
  go_enter Tryd.func18, Tryd.ntmps18
  go_wp2_with (go_at_call 15; refine (HC.out _).mono ?_; rintro e w5 ⟨rfl, rfl⟩)
  go_ret
  exact ⟨rfl, rfl⟩
/-- bytes.Clone of a row of bytes. -/
theorem bytes_Clone_row (v : Value) (l : List Int) (w : World) (h : Bys w v l) (hl : l.length ≤ 1000000000) :
    Calls Tryd.prog 26 #[v] w fun e w' => ∃ v', e = .returned v' ∧ Bys w' v' l ∧ (∀ k, v'.ownBlock = some k → w.heap.size ≤ k) ∧ Below w.heap.size w w' := by
  obtain ⟨A, c, rfl, hc, hC⟩ := h.slice
  have hC' : ReadsInt w .u8 A l.length l := by
    obtain ⟨A2, c2, e, hr⟩ := own_reads h
    injection e with e1 e2 e3
    subst e1
    exact hr
  cases A with
  | none =>
    have hl0 : l = [] := by
      rcases l with _ | ⟨x, r⟩
      · rfl
      · obtain ⟨ad, e, _⟩ := hC'.2.2 (by simp)
        cases e
    subst hl0
    refine (Tryd.bytes_Clone_nil _ _ w).mono ?_
    rintro e w' ⟨rfl, rfl⟩
    exact ⟨_, rfl, Bys.nil _, fun k hk => by simp [Value.ownBlock] at hk, Below.refl _ _⟩
  | some ad =>
    refine (Tryd.bytes_Clone_at ad l.length c l w rfl (by omega) (fun i hi => ?_)).mono ?_
    · obtain ⟨ad2, e, hc2⟩ := hC'.2.2 (by omega)
      injection e with e
      subst e
      exact hc2 i hi
    · rintro e w' ⟨v', rfl, ho, _, hb⟩
      exact ⟨v', rfl, Bys.of ho, fun k hk => own_base ho k hk, hb⟩
set_option maxHeartbeats 4000000 in
set_option maxRecDepth 100000 in
theorem quill_Done (g : Nat) (v : Value) (l : List Int) (w : World) (hl : l.length ≤ 1000000000) (hq : Qu w g v l) :
    Calls Tryd.prog 19 #[.pointer (some ⟨g, 0, none⟩)] w fun e w' => ∃ v', e = .returned v' ∧ Bys w' v' l ∧ (∀ k, v'.ownBlock = some k → w.heap.size ≤ k) ∧ Below w.heap.size w w' := by
  have HC := Aside0.mk (bytes_Clone_row v l w hq.row hl)
  have hc0 : w.cell? ⟨g, 0, none⟩ = some v := blk_cell hq.blk 0
  have HQ := Aside0.mk hq
  clear hq
  go_enter Tryd.func19, Tryd.ntmps19
  go_wp2_with (go_at_call 26; refine HC.out.mono ?_; rintro e w5 ⟨v5, rfl, h1, h2, h3⟩; have H1 := Aside0.mk h1; have H2 := Aside0.mk h2; have H3 := Aside0.mk h3; clear h1 h2 h3)
  go_ret
  exact ⟨v5, rfl, H1.out, H2.out, H3.out⟩
set_option maxHeartbeats 4000000 in
set_option maxRecDepth 100000 in
theorem quill_Done_nil (w : World) :
    Calls Tryd.prog 19 #[.pointer none] w fun e w' => e = .returned (.slice none 0 0) ∧ w = w' := by
  go_enter Tryd.func19, Tryd.ntmps19
  go_wp2
  go_ret
  exact ⟨rfl, rfl⟩

end Go.Proofs.YtdojgjbiilnjpaaDoor.M
