/- The law arrears/arrearslaw08.QuillTakes holds: called with whatever arguments it returns true and leaves them as they were. Conditions: none beyond the given row's own. -/
-- Printed by a program of this session's (pwrow.py); Lean checks it.
import Derived.Test.YtdojgjbiilnjpaaDoorRows
import Derived.Test.YtdojgjbiilnjpaaDoorCards
import Derived.Test.YtdojgjbiilnjpaaDoorTie
import Derived.Test.YtdojgjbiilnjpaaDoorPQuillTakesx2
import Derived.Test.YtdojgjbiilnjpaaDoorPureQuillTakes
import Derived.WalkKit
import Derived.ProofKit
import Derived.OpenShut
import Derived.ShutString
import Derived.ChangeOld
import Derived.Below
import Derived.SizedLaws
import Derived.Lib.SmallJoins
import Derived.Deep.Slices
import Derived.Test.YtdojgjbiilnjpaaDoorWSized
import Derived.ChangeSame
import Derived.ChangeVars
import Derived.JoinedOf
import Derived.RowKitTokens
import Derived.LaidLaws
import Derived.LaidHandle
import Derived.LaidMore
import Derived.Stop.Joined
import Derived.Stop.LaidErr
import Derived.Lib.LaidTab
import Derived.SevenTiedAt
namespace Go.Proofs.YtdojgjbiilnjpaaDoor.PQuillTakes
open Go.ChangeShapes Go.WideShapes Go.ChangeAt Go.RowKit
open Go.Proofs.YtdojgjbiilnjpaaDoorW.PrintWords
open Go.ChangeMaps (open_string shut_string)
open Go.Proofs.YtdojgjbiilnjpaaDoor.M (Laid)
set_option linter.unusedVariables false
set_option linter.unusedSimpArgs false
theorem own_ : ownKnob Tryd.prog.godebug = none := by kernel_rfl
theorem trod_int_mk_ {H : Type} {enc : TypeId × Value → H} {P : Program} {w : World} {base : Nat} {spare : Nat → Bool} {held : Bool} {t : TypeId} {k : IntKind} {n : Int} (hu : P.underlying t = some (.int k)) (hw : (Lit.int k n).wf = true) : DataW.trod enc P w base spare held 1 t [.int k n] = some (.lit (.int k n), []) := by
  simp [DataW.trod, hu, hw]
theorem laidOut_ : laidOutB Tryd.prog = true := by kernel_rfl
theorem Kd_C_none_ {α : Type} (d : Kd α) (w : World) : d.C w none 0 [] := ⟨rfl, by omega, fun h => absurd h (by omega)⟩
theorem rows_of_ {α : Type} {d : Kd α} {Q : α → Prop} (z : α) (w : World) (x : Addr) (len cap B nf : Nat) (hl : len ≤ cap) (hb : len * B ≤ 140737488351232) (hB : 0 < B) (hn : d.sz = nf) (h : ∀ i, i < len → ∃ y cs', w.cells? 0 (x.add (i * nf)) nf = some cs' ∧ d.K w y cs' ∧ Q y) : ∃ l : List α, len = l.length ∧ l.length * B ≤ 140737488351232 ∧ (∀ x ∈ l, Q x) ∧ d.C w (some x) l.length l ∧ l.length ≤ cap := by
  subst hn
  have h' : ∀ i, ∃ y, i < len → ∃ cs', w.cells? 0 (x.add (i * d.sz)) d.sz = some cs' ∧ d.K w y cs' ∧ Q y := fun i => by
    by_cases hi : i < len
    · obtain ⟨y, cs', h1, h2, h3⟩ := h i hi; exact ⟨y, fun _ => ⟨cs', h1, h2, h3⟩⟩
    · exact ⟨z, fun hh => absurd hh hi⟩
  have hlm : len ≤ 140737488351232 := Nat.le_trans (Nat.le_mul_of_pos_right _ hB) hb
  refine ⟨(List.range len).map fun i => Classical.choose (h' i), by simp, by simpa using hb, ?_, ⟨by simp, by simp; omega, fun _ => ⟨x, rfl, ?_⟩⟩, by simpa using hl⟩
  · intro y hy
    obtain ⟨i, hi, rfl⟩ := List.mem_map.1 hy
    obtain ⟨_, _, _, h3⟩ := Classical.choose_spec (h' i) (List.mem_range.1 hi)
    exact h3
  · intro j p hj
    have hj2 : j < len := by have := (List.getElem?_eq_some_iff.1 hj).1; simpa using this
    have hp : p = Classical.choose (h' j) := by rw [List.getElem?_map, List.getElem?_range hj2] at hj; simpa using hj.symm
    obtain ⟨cs', h1, h2, h3⟩ := Classical.choose_spec (h' j) hj2
    rw [← hp] at h2
    obtain ⟨_, hlen, hcell⟩ := World.cells?_some h1
    refine ⟨cs', hlen, h2, fun i u hu => ?_⟩
    have hi : i < d.sz := by have := (List.getElem?_eq_some_iff.1 hu).1; omega
    rw [← Addr.add_add, hcell i hi]
    exact hu
theorem cells_31 : Tryd.prog.cellsOf 31 = 5 := by kernel_rfl
theorem bytes_31 : Tryd.prog.bytesOf 31 = 48 := by kernel_rfl
set_option maxRecDepth 100000 in
theorem elem_31 {H : Type} {enc : TypeId × Value → H} {w : World} {base n : Nat} {spare : Nat → Bool} {held : Bool} {cs : List Value} {x : DataW H × List MemPlace} (h : DataW.trod enc Tryd.prog w base spare held n 31 cs = some x) : ∃ y : S31, k31.K w y cs ∧ ((0 ≤ y.f0 ∧ y.f0 ≤ 255) ∧ (0 ≤ y.f1 ∧ y.f1 ≤ 18446744073709551615) ∧ (-9223372036854775808 ≤ y.f2 ∧ y.f2 ≤ 9223372036854775807) ∧ (y.f3.size ≤ 9223372036854775807) ∧ (0 ≤ y.f4 ∧ y.f4 ≤ 18446744073709551615)) := by
  obtain ⟨xs, m, _, rfl, hl, hlen, hf⟩ := DataW.trod_struct Tryd.underlying31 h
  have hl' : cs.length = 5 := hl.trans cells_31
  obtain ⟨c0, c1, c2, c3, c4, rfl⟩ : ∃ c0 c1 c2 c3 c4, cs = [c0, c1, c2, c3, c4] := by
    match cs, hl' with
    | [c0, c1, c2, c3, c4], _ => exact ⟨c0, c1, c2, c3, c4, rfl⟩
  have g0 : ∃ z, DataW.trod enc Tryd.prog w base spare held m 5 [c0] = some z := by
    have q := hf 0 _ rfl
    have e1 : Tryd.prog.cellsOf 5 = 1 := by kernel_rfl
    obtain ⟨z, hz⟩ : ∃ z, xs[0]? = some z := ⟨_, List.getElem?_eq_getElem (by simp [hlen])⟩
    exact ⟨z, by rw [← hz]; simpa [e1] using q⟩
  obtain ⟨z0, g0⟩ := g0
  obtain ⟨b0, e0, _, w0⟩ := DataW.trod_int Tryd.underlying5 g0
  obtain rfl : c0 = .int .u8 b0 := by simpa using e0
  have w0 := bounds_u8 w0
  have g1 : ∃ z, DataW.trod enc Tryd.prog w base spare held m 29 [c1] = some z := by
    have q := hf 1 _ rfl
    have e1 : Tryd.prog.cellsOf 29 = 1 := by kernel_rfl
    obtain ⟨z, hz⟩ : ∃ z, xs[1]? = some z := ⟨_, List.getElem?_eq_getElem (by simp [hlen])⟩
    exact ⟨z, by rw [← hz]; simpa [e1] using q⟩
  obtain ⟨z1, g1⟩ := g1
  obtain ⟨b1, e1, _, w1⟩ := DataW.trod_int Tryd.underlying29 g1
  obtain rfl : c1 = .int .u64 b1 := by simpa using e1
  have w1 := bounds_u64 w1
  have g2 : ∃ z, DataW.trod enc Tryd.prog w base spare held m 2 [c2] = some z := by
    have q := hf 2 _ rfl
    have e1 : Tryd.prog.cellsOf 2 = 1 := by kernel_rfl
    obtain ⟨z, hz⟩ : ∃ z, xs[2]? = some z := ⟨_, List.getElem?_eq_getElem (by simp [hlen])⟩
    exact ⟨z, by rw [← hz]; simpa [e1] using q⟩
  obtain ⟨z2, g2⟩ := g2
  obtain ⟨b2, e2, _, w2⟩ := DataW.trod_int Tryd.underlying2 g2
  obtain rfl : c2 = .int .i64 b2 := by simpa using e2
  have w2 := bounds_i64 w2
  have g3 : ∃ z, DataW.trod enc Tryd.prog w base spare held m 9 [c3] = some z := by
    have q := hf 3 _ rfl
    have e1 : Tryd.prog.cellsOf 9 = 1 := by kernel_rfl
    obtain ⟨z, hz⟩ : ∃ z, xs[3]? = some z := ⟨_, List.getElem?_eq_getElem (by simp [hlen])⟩
    exact ⟨z, by rw [← hz]; simpa [e1] using q⟩
  obtain ⟨z3, g3⟩ := g3
  obtain ⟨b3, e3, _, w3⟩ := DataW.trod_string Tryd.underlying9 g3
  obtain rfl : c3 = .string b3 := by simpa using e3
  have g4 : ∃ z, DataW.trod enc Tryd.prog w base spare held m 29 [c4] = some z := by
    have q := hf 4 _ rfl
    have e1 : Tryd.prog.cellsOf 29 = 1 := by kernel_rfl
    obtain ⟨z, hz⟩ : ∃ z, xs[4]? = some z := ⟨_, List.getElem?_eq_getElem (by simp [hlen])⟩
    exact ⟨z, by rw [← hz]; simpa [e1] using q⟩
  obtain ⟨z4, g4⟩ := g4
  obtain ⟨b4, e4, _, w4⟩ := DataW.trod_int Tryd.underlying29 g4
  obtain rfl : c4 = .int .u64 b4 := by simpa using e4
  have w4 := bounds_u64 w4
  exact ⟨⟨b0, b1, b2, b3, b4⟩, k31_mk w ⟨b0, b1, b2, b3, b4⟩, ⟨w0, w1, w2, w3, w4⟩⟩
theorem et_ : Tryd.prog.globalNamed "errors.errorType" = some 0 := by kernel_rfl
theorem rt_ : (Tryd.prog.cutTypes.find? (·.1 == "internal/reflectlite.rtype")).map (·.2) = some 87 := by kernel_rfl
theorem oneRow_ : ((List.range 128).filter fun t => Tryd.prog.rowNamed t [101, 114, 114, 111, 114]) = [37] := by kernel_rfl
theorem size_ : Tryd.prog.types.size = 128 := by kernel_rfl
theorem laid_of_met {W : World} (h : laidMetH Tryd.prog Rows.quillTakesRow.laid W) : Laid W := by
  have h' : laidMet Tryd.prog [] W ∧ handlesMet Tryd.prog [("errors.errorType", Rows.laid_errors_errorType)] W := h
  have l0 := h'.1
  obtain ⟨name, u, ty, e1, e2, e3, e4, e5⟩ := h'.2 _ (List.mem_singleton.2 rfl)
  have en : name = [101, 114, 114, 111, 114] := (Option.some.inj e1).symm
  subst en
  obtain rfl := Option.some.inj (rt_.symm.trans e2)
  have hm : ty ∈ (List.range 128).filter fun t => Tryd.prog.rowNamed t [101, 114, 114, 111, 114] := List.mem_filter.2 ⟨List.mem_range.2 (by rw [← size_]; exact e3), e4⟩
  rw [oneRow_] at hm
  obtain rfl := List.mem_singleton.1 hm
  have hh : typeHandle Tryd.prog 37 = .pointer (some ⟨1, 37, none⟩) := by kernel_rfl
  rw [hh] at e5
  have q_ : W.cell? ⟨0, 0, none⟩ = some (.iface 87 (.agg #[.pointer (some ⟨1, 37, none⟩)])) := by simpa using World.var?_cell et_ e5 0
  exact ⟨q_⟩
theorem door_met_ (os : Os) (args : Array Value) : laidMetH Tryd.prog Rows.quillTakesRow.laid ((World.doorLaid Tryd.prog 4000 os).forCall (fun _ _ => 0) ⟨#[], args, []⟩).memory :=
  laidMetH_of_parts3 (fuel := 8) (laidMet_of_run' 8 (by kernel_rfl) (by kernel_rfl)) (by kernel_rfl) (by kernel_rfl)
set_option maxRecDepth 100000 in
set_option maxHeartbeats 4000000 in
theorem lifted_ (os : Os) (started : os.Started) (H : Type) (enc : TypeId × Value → H) :
    ReturnsInHanded {} Tryd.checked os 3 .any (fun w args => (Rows.quillTakesSpec.pre enc Tryd.prog Tryd.f3 Rows.quillTakesRow.domain false w args ∧ laidMetH Tryd.prog Rows.quillTakesRow.laid w) ∧ sizedMet enc Tryd.prog Tryd.f3 (OpenSpec.ofChange Rows.quillTakesSpec) false w args) (Rows.quillTakesSpec.post enc Tryd.prog Tryd.f3 false true false false) := by
  refine returnsInHanded_of_change_and (C := Tryd.checked) (X := fun w _ => laidMetH Tryd.prog Rows.quillTakesRow.laid w) (fun _ _ _ hh h => h.of_heap hh) own_ started (by kernel_rfl) Tryd.func3
    (ChangeSpec.witness_shaped (enc := enc) (C := Tryd.checked) (os := os) (X := fun w _ => laidMetH Tryd.prog Rows.quillTakesRow.laid w) false (World.doorLaid Tryd.prog 4000 os) #[.slice none 0 0, .slice none 0 0] 8 rfl (World.shaped_of_RefB (by kernel_rfl) (by kernel_rfl)) (by kernel_rfl) (by kernel_rfl) (by kernel_rfl) (door_met_ os _)) ?_
  intro W base args ds gs before hval0 hW hcnd hsz0 hL _
  have hsz : (DataW.weightsEach Tryd.prog (Tryd.f3.params.toList ++ Rows.quillTakesSpec.plain.varTypes Tryd.prog) (ds ++ gs)).all (· ≤ reachBytes) = true := hsz0
  have hval : ∀ (j : Nat) t v, Tryd.f3.params[j]? = some t → args[j]? = some v → Value.okWide Tryd.prog W .any base t v := hval0
  have hW' := hW
  obtain ⟨p, q, hA0, hV, rfl, hfz, hnd⟩ := hW
  have hA : DataW.TrodAll enc Tryd.prog W 0 (fun _ => true) true Tryd.f3.params.toList args.toList ds p := hA0
  rw [Tryd.params3] at hA hval hsz
  obtain ⟨v0, vs0, d0, ds0, p0, q0, hargs, rfl, rfl, h0, r0⟩ := trodAll_cons hA
  obtain ⟨v1, vs1, d1, ds1, p1, q1, rfl, rfl, rfl, h1, r1⟩ := trodAll_cons r0
  obtain ⟨rfl, rfl, rfl⟩ := trodAll_nil r1
  obtain rfl : args = #[v0, v1] := by cases args; simp_all
  obtain ⟨rfl, rfl⟩ := trodVars_none hV
  obtain ⟨A0, len0, c0, rfl⟩ := okWide_slice Tryd.underlying22 (hval 0 22 v0 rfl rfl)
  have k0 := h0
  have lt0 : ∀ x ∈ p0, x.block < W.heap.size := by obtain ⟨m, hm⟩ := k0; exact DataW.trod_lt m _ _ _ hm
  have y0 : len0 * 1 ≤ 140737488351232 := sized_ints hsz (j := 0) (t := 22) rfl rfl Tryd.underlying22 Tryd.underlying5 (by kernel_rfl) (by kernel_rfl) h0
  obtain ⟨l0, rfl, hr0, hm0, hw0, hc0⟩ : ∃ l : List Int, len0 = l.length ∧ ReadsInt W .u8 A0 l.length l ∧ l.length ≤ maxLen ∧ (∀ x ∈ l, (Lit.int .u8 x).wf = true) ∧ l.length ≤ c0 := by
    obtain ⟨fuel, hf⟩ := h0
    rcases open_ints Tryd.underlying22 Tryd.underlying5 (by kernel_rfl) hf with ⟨hcs, _⟩ | ⟨x, l, c, zs, hcs, _, hl, hm, hz, _, hcell, hwz⟩
    · simp [Value.cells] at hcs
      obtain ⟨rfl, rfl, rfl⟩ := hcs
      obtain ⟨l, h1, h2, h3, h4, h5⟩ := ReadsInt.ofRowC (w := W) (k := .u8) (.inl ⟨rfl, rfl, rfl, rfl⟩)
      exact ⟨l, h1, h2, h3, h4, h5⟩
    · simp [Value.cells] at hcs
      obtain ⟨rfl, rfl, rfl⟩ := hcs
      obtain ⟨l, h1, h2, h3, h4, h5⟩ := ReadsInt.ofRowC (w := W) (k := .u8) (.inr ⟨_, rfl, hl, hm, by simpa using hz, hcell, hwz⟩)
      exact ⟨l, h1, h2, h3, h4, h5⟩
  obtain ⟨A1, len1, c1, rfl⟩ := okWide_slice Tryd.underlying23 (hval 1 23 v1 rfl rfl)
  have k1 := h1
  have lt1 : ∀ x ∈ p1, x.block < W.heap.size := by obtain ⟨m, hm⟩ := k1; exact DataW.trod_lt m _ _ _ hm
  obtain ⟨l1, rfl, y1, hw1, hr1, hc1⟩ : ∃ l : List S31, len1 = l.length ∧ l.length * 48 ≤ 140737488351232 ∧ (∀ x ∈ l, (0 ≤ x.f0 ∧ x.f0 ≤ 255) ∧ (0 ≤ x.f1 ∧ x.f1 ≤ 18446744073709551615) ∧ (-9223372036854775808 ≤ x.f2 ∧ x.f2 ≤ 9223372036854775807) ∧ (x.f3.size ≤ 9223372036854775807) ∧ (0 ≤ x.f4 ∧ x.f4 ≤ 18446744073709551615)) ∧ Kd.C k31 W A1 l.length l ∧ l.length ≤ c1 := by
    obtain ⟨fuel, hf⟩ := h1
    rcases Go.Deep.open_slice Tryd.underlying23 hf with ⟨hcs, _⟩ | ⟨x, len, cap, m, n, D, Pl, hcs, _, hl, hm, hmm, hx, hel⟩
    · simp [Value.cells] at hcs
      obtain ⟨rfl, rfl, rfl⟩ := hcs
      exact ⟨[], rfl, by simp, by simp, Kd_C_none_ _ _, Nat.le_refl _⟩
    · simp [Value.cells] at hcs
      obtain ⟨rfl, rfl, rfl⟩ := hcs
      have hlm : len1 ≤ m := by rw [hmm]; split <;> omega
      have ys : len1 * 48 ≤ 140737488351232 := by
        obtain ⟨hx1, _⟩ := Prod.mk.inj hx
        rw [hx1] at hsz
        have z := sized_slice hsz (j := 1) (t := 23) rfl rfl Tryd.underlying23
        simp only [List.length_map, List.length_range] at z
        rw [show Tryd.prog.bytesOf 31 = 48 by kernel_rfl] at z
        exact Nat.le_trans (Nat.mul_le_mul_right _ (Nat.le_add_right _ _)) z
      exact rows_of_ (d := k31) (Q := fun x => (0 ≤ x.f0 ∧ x.f0 ≤ 255) ∧ (0 ≤ x.f1 ∧ x.f1 ≤ 18446744073709551615) ∧ (-9223372036854775808 ≤ x.f2 ∧ x.f2 ≤ 9223372036854775807) ∧ (x.f3.size ≤ 9223372036854775807) ∧ (0 ≤ x.f4 ∧ x.f4 ≤ 18446744073709551615)) z31 W x len1 c1 48 5 hl ys (by decide) rfl (fun i hi => by
        obtain ⟨cs', h1, h2⟩ := hel i (by omega)
        obtain ⟨y, hy, hb⟩ := elem_31 h2
        exact ⟨y, cs', by rw [cells_31] at h1; exact h1, hy, hb⟩)
  have hG := laid_of_met hL
  clear hA0 hval0 hsz0 hsz
  obtain ⟨kk_, hpure⟩ := pure_proved l0 l1 y0 (fun x hx => bounds_u8 (hw0 x hx)) y1 hw1
  refine (arrearslaw08_QuillTakes.calls kk_ _ _ l0 _ _ l1 true W (Kd.C_of_reads (d := (0 : Int)) (h1 := fun _ => rfl) hr0) hc0 hr1 hc1 hG hpure rfl).mono fun e W' hend => ?_
  obtain ⟨he, bel0⟩ := hend
  have bel : Below W.heap.size W W' := bel0
  subst he
  exact ⟨_, rfl, _, _, _, [], _, [], hW', trodAll_mk1 (shut_bool Tryd.underlying4 _), (trodAll_cons_mk (Below.trod laidOut_ (by kernel_rfl) (of_decide_eq_true (by kernel_rfl)) k0 bel lt0) (trodAll_cons_mk (Below.trod laidOut_ (by kernel_rfl) (of_decide_eq_true (by kernel_rfl)) k1 bel lt1) trodAll_mk0)), rfl, bel.frame _, fun h => by cases h⟩
theorem over_ : Rows.quillTakesRow.holds Tryd.pinned (OpenSpec.ofChange Rows.quillTakesSpec) :=
  OpenClaim.holds_of_wide 3 Tryd.f3 rfl rfl rfl rfl rfl rfl rfl ⟨rfl, rfl, rfl, rfl, rfl⟩ rfl rfl rfl rfl rfl (by kernel_rfl) Tryd.func3 (by kernel_rfl)
    (of_decide_eq_true (by kernel_rfl)) (by unfold Func.isWrapper; first | (rw [if_pos (by decide +kernel)]; kernel_rfl) | (rw [if_neg (by decide +kernel)]; exact ⟨rfl, rfl⟩))
    (fun os started H enc _ => lifted_ os started H enc)
theorem card_ : Rows.QuillTakesCardSaid :=
  Claim7.holds_tied_plain_at .later [] [.handle] true (true, "5e4c69a551a550eed684a1c648a3f0eacf5090657c2c8273f976ee05618d2c05") true
    over_ (fun _ h => by cases h) (by kernel_rfl) (fun _ h => by cases h) quillTakes_row_tie rfl ⟨rfl, rfl⟩ (by kernel_rfl) rfl
    (fun f fn hf hfn => by
      obtain rfl : f = 3 := Option.some.inj ((show Tryd.prog.funcNamed "arrears/arrearslaw08.QuillTakes" = some 3 by kernel_rfl).symm.trans hf) |>.symm
      obtain rfl : fn = Tryd.f3 := (Option.some.inj (Tryd.func3.symm.trans hfn)).symm
      exact ⟨by kernel_rfl, fun j t ht => by
        rw [Tryd.params3] at ht
        have hall : ([22, 23] : List TypeId).all (fun t => Tryd.prog.wantsStandIn t == false) = true := by kernel_rfl
        have hm : t ∈ ([22, 23] : List TypeId) := List.mem_of_getElem? (i := j) (by simpa using ht)
        exact eq_of_beq (List.all_eq_true.1 hall t hm)⟩)
    (by kernel_rfl)
end Go.Proofs.YtdojgjbiilnjpaaDoor.PQuillTakes
namespace Go.Proofs.YtdojgjbiilnjpaaDoor
/-- The statement, under a short name, for the claim. -/
theorem quillTakes_holds : Rows.QuillTakesCardSaid := PQuillTakes.card_
#print axioms quillTakes_holds
end Go.Proofs.YtdojgjbiilnjpaaDoor
