/- The law arrears/arrearslaw08.QuillLays holds: called with whatever arguments it returns true and leaves them as they were. Conditions: none beyond the given row's own. -/
-- Printed by a program of this session's (pwrow.py); Lean checks it.
import Derived.Test.YtdojgjbiilnjpaaRows
import Derived.Test.YtdojgjbiilnjpaaPQuillLaysx2
import Derived.Test.YtdojgjbiilnjpaaPureQuillLays
import Derived.WalkKit
import Derived.ProofKit
import Derived.OpenShut
import Derived.ShutString
import Derived.ChangeOld
import Derived.Below
import Derived.SizedLaws
import Derived.Lib.SmallJoins
import Derived.Deep.Slices
import Derived.Test.YtdojgjbiilnjpaaWSized
namespace Go.Proofs.Ytdojgjbiilnjpaa.PQuillLays
open Go.ChangeShapes Go.WideShapes Go.ChangeAt Go.RowKit
open Go.Proofs.YtdojgjbiilnjpaaW.PrintWords
open Go.ChangeMaps (open_string shut_string)
set_option linter.unusedVariables false
set_option linter.unusedSimpArgs false
theorem own_ : ownKnob Try.prog.godebug = none := by kernel_rfl
theorem trod_int_mk_ {H : Type} {enc : TypeId × Value → H} {P : Program} {w : World} {base : Nat} {spare : Nat → Bool} {held : Bool} {t : TypeId} {k : IntKind} {n : Int} (hu : P.underlying t = some (.int k)) (hw : (Lit.int k n).wf = true) : DataW.trod enc P w base spare held 1 t [.int k n] = some (.lit (.int k n), []) := by
  simp [DataW.trod, hu, hw]
theorem laidOut_ : laidOutB Try.prog = true := by kernel_rfl
theorem Kd_C_none_ {α : Type} (d : Kd α) (w : World) : d.C w none 0 [] := ⟨rfl, by omega, fun h => absurd h (by omega)⟩
theorem rows_of_ {α : Type} {d : Kd α} {Q : α → Prop} (z : α) (w : World) (x : Addr) (len cap B nf : Nat) (hl : len ≤ cap) (hb : len * B ≤ 140737488351232) (hB : 0 < B) (hn : d.sz = nf) (h : ∀ i, i < len → ∃ y cs', w.cells? 0 (x.add (i * nf)) nf = some cs' ∧ d.K w y cs' ∧ Q y) : ∃ l : List α, len = l.length ∧ l.length * B ≤ 140737488351232 ∧ (∀ x ∈ l, Q x) ∧ d.C w (some x) l.length l ∧ l.length ≤ cap := by
  subst hn
  have h' : ∀ i, ∃ y, i < len → ∃ cs', w.cells? 0 (x.add (i * d.sz)) d.sz = some cs' ∧ d.K w y cs' ∧ Q y := fun i => by
    by_cases hi : i < len
    · obtain ⟨y, cs', h1, h2, h3⟩ := h i hi; exact ⟨y, fun _ => ⟨cs', h1, h2, h3⟩⟩
    · exact ⟨z, fun hh => absurd hh hi⟩
  have hlm : len ≤ 140737488351232 := Nat.le_trans (Nat.le_mul_of_pos_right _ hB) hb
  refine ⟨(List.range len).map fun i => Classical.choose (h' i), by simp, by simpa using hb, ?_, ⟨by simp, by simp; omega, fun _ => ⟨x, rfl, ?_⟩⟩, by simpa using hl⟩
  · intro y hy
    obtain ⟨i, hi, rfl⟩ := List.mem_map.1 hy
    obtain ⟨_, _, _, h3⟩ := Classical.choose_spec (h' i) (List.mem_range.1 hi)
    exact h3
  · intro j p hj
    have hj2 : j < len := by have := (List.getElem?_eq_some_iff.1 hj).1; simpa using this
    have hp : p = Classical.choose (h' j) := by rw [List.getElem?_map, List.getElem?_range hj2] at hj; simpa using hj.symm
    obtain ⟨cs', h1, h2, h3⟩ := Classical.choose_spec (h' j) hj2
    rw [← hp] at h2
    obtain ⟨_, hlen, hcell⟩ := World.cells?_some h1
    refine ⟨cs', hlen, h2, fun i u hu => ?_⟩
    have hi : i < d.sz := by have := (List.getElem?_eq_some_iff.1 hu).1; omega
    rw [← Addr.add_add, hcell i hi]
    exact hu
theorem cells_40 : Try.prog.cellsOf 40 = 5 := by kernel_rfl
theorem bytes_40 : Try.prog.bytesOf 40 = 48 := by kernel_rfl
theorem elem_40 {H : Type} {enc : TypeId × Value → H} {w : World} {base n : Nat} {spare : Nat → Bool} {held : Bool} {cs : List Value} {x : DataW H × List MemPlace} (h : DataW.trod enc Try.prog w base spare held n 40 cs = some x) : ∃ y : S40, k40.K w y cs ∧ ((0 ≤ y.f0 ∧ y.f0 ≤ 255) ∧ (0 ≤ y.f1 ∧ y.f1 ≤ 18446744073709551615) ∧ (-9223372036854775808 ≤ y.f2 ∧ y.f2 ≤ 9223372036854775807) ∧ (y.f3.size ≤ 9223372036854775807) ∧ (0 ≤ y.f4 ∧ y.f4 ≤ 18446744073709551615)) := by
  obtain ⟨xs, m, _, rfl, hl, hlen, hf⟩ := DataW.trod_struct Try.underlying40 h
  have hl' : cs.length = 5 := hl.trans cells_40
  obtain ⟨c0, c1, c2, c3, c4, rfl⟩ : ∃ c0 c1 c2 c3 c4, cs = [c0, c1, c2, c3, c4] := by
    match cs, hl' with
    | [c0, c1, c2, c3, c4], _ => exact ⟨c0, c1, c2, c3, c4, rfl⟩
  have g0 : ∃ z, DataW.trod enc Try.prog w base spare held m 5 [c0] = some z := by
    have q := hf 0 _ rfl
    have e1 : Try.prog.cellsOf 5 = 1 := by kernel_rfl
    obtain ⟨z, hz⟩ : ∃ z, xs[0]? = some z := ⟨_, List.getElem?_eq_getElem (by simp [hlen])⟩
    exact ⟨z, by rw [← hz]; simpa [e1] using q⟩
  obtain ⟨z0, g0⟩ := g0
  obtain ⟨b0, e0, _, w0⟩ := DataW.trod_int Try.underlying5 g0
  obtain rfl : c0 = .int .u8 b0 := by simpa using e0
  have w0 := bounds_u8 w0
  have g1 : ∃ z, DataW.trod enc Try.prog w base spare held m 22 [c1] = some z := by
    have q := hf 1 _ rfl
    have e1 : Try.prog.cellsOf 22 = 1 := by kernel_rfl
    obtain ⟨z, hz⟩ : ∃ z, xs[1]? = some z := ⟨_, List.getElem?_eq_getElem (by simp [hlen])⟩
    exact ⟨z, by rw [← hz]; simpa [e1] using q⟩
  obtain ⟨z1, g1⟩ := g1
  obtain ⟨b1, e1, _, w1⟩ := DataW.trod_int Try.underlying22 g1
  obtain rfl : c1 = .int .u64 b1 := by simpa using e1
  have w1 := bounds_u64 w1
  have g2 : ∃ z, DataW.trod enc Try.prog w base spare held m 2 [c2] = some z := by
    have q := hf 2 _ rfl
    have e1 : Try.prog.cellsOf 2 = 1 := by kernel_rfl
    obtain ⟨z, hz⟩ : ∃ z, xs[2]? = some z := ⟨_, List.getElem?_eq_getElem (by simp [hlen])⟩
    exact ⟨z, by rw [← hz]; simpa [e1] using q⟩
  obtain ⟨z2, g2⟩ := g2
  obtain ⟨b2, e2, _, w2⟩ := DataW.trod_int Try.underlying2 g2
  obtain rfl : c2 = .int .i64 b2 := by simpa using e2
  have w2 := bounds_i64 w2
  have g3 : ∃ z, DataW.trod enc Try.prog w base spare held m 9 [c3] = some z := by
    have q := hf 3 _ rfl
    have e1 : Try.prog.cellsOf 9 = 1 := by kernel_rfl
    obtain ⟨z, hz⟩ : ∃ z, xs[3]? = some z := ⟨_, List.getElem?_eq_getElem (by simp [hlen])⟩
    exact ⟨z, by rw [← hz]; simpa [e1] using q⟩
  obtain ⟨z3, g3⟩ := g3
  obtain ⟨b3, e3, _, w3⟩ := DataW.trod_string Try.underlying9 g3
  obtain rfl : c3 = .string b3 := by simpa using e3
  have g4 : ∃ z, DataW.trod enc Try.prog w base spare held m 22 [c4] = some z := by
    have q := hf 4 _ rfl
    have e1 : Try.prog.cellsOf 22 = 1 := by kernel_rfl
    obtain ⟨z, hz⟩ : ∃ z, xs[4]? = some z := ⟨_, List.getElem?_eq_getElem (by simp [hlen])⟩
    exact ⟨z, by rw [← hz]; simpa [e1] using q⟩
  obtain ⟨z4, g4⟩ := g4
  obtain ⟨b4, e4, _, w4⟩ := DataW.trod_int Try.underlying22 g4
  obtain rfl : c4 = .int .u64 b4 := by simpa using e4
  have w4 := bounds_u64 w4
  exact ⟨⟨b0, b1, b2, b3, b4⟩, k40_mk w ⟨b0, b1, b2, b3, b4⟩, ⟨w0, w1, w2, w3, w4⟩⟩
set_option maxRecDepth 100000 in
set_option maxHeartbeats 4000000 in
theorem lifted_ (os : Os) (started : os.Started) (H : Type) (enc : TypeId × Value → H) :
    ReturnsInHanded {} Try.checked os 6 .any (Rows.quillLaysSpec.pre6 enc Try.prog Try.f6 Rows.quillLaysRow.domain false) (Rows.quillLaysSpec.post enc Try.prog Try.f6 false true false false) := by
  refine returnsInHanded_of_change_sized (C := Try.checked) own_ started (by kernel_rfl) Try.func6
    (ChangeSpec.witness6 (enc := enc) (C := Try.checked) false ⟨#[], #[.slice none 0 0], []⟩ 8 (by kernel_rfl) (by kernel_rfl) (by kernel_rfl) (by kernel_rfl)) ?_
  intro W base args ds gs before hval0 hW hcnd hsz0 _
  have hsz : (DataW.weightsEach Try.prog (Try.f6.params.toList ++ Rows.quillLaysSpec.plain.varTypes Try.prog) (ds ++ gs)).all (· ≤ reachBytes) = true := hsz0
  have hval : ∀ (j : Nat) t v, Try.f6.params[j]? = some t → args[j]? = some v → Value.okWide Try.prog W .any base t v := hval0
  have hW' := hW
  obtain ⟨p, q, hA0, hV, rfl, hfz, hnd⟩ := hW
  have hA : DataW.TrodAll enc Try.prog W 0 (fun _ => true) true Try.f6.params.toList args.toList ds p := hA0
  rw [Try.params6] at hA hval hsz
  obtain ⟨v0, vs0, d0, ds0, p0, q0, hargs, rfl, rfl, h0, r0⟩ := trodAll_cons hA
  obtain ⟨rfl, rfl, rfl⟩ := trodAll_nil r0
  obtain rfl : args = #[v0] := by cases args; simp_all
  obtain ⟨rfl, rfl⟩ := trodVars_none hV
  obtain ⟨A0, len0, c0, rfl⟩ := okWide_slice Try.underlying36 (hval 0 36 v0 rfl rfl)
  have k0 := h0
  have lt0 : ∀ x ∈ p0, x.block < W.heap.size := by obtain ⟨m, hm⟩ := k0; exact DataW.trod_lt m _ _ _ hm
  obtain ⟨l0, rfl, y0, hw0, hr0, hc0⟩ : ∃ l : List S40, len0 = l.length ∧ l.length * 48 ≤ 140737488351232 ∧ (∀ x ∈ l, (0 ≤ x.f0 ∧ x.f0 ≤ 255) ∧ (0 ≤ x.f1 ∧ x.f1 ≤ 18446744073709551615) ∧ (-9223372036854775808 ≤ x.f2 ∧ x.f2 ≤ 9223372036854775807) ∧ (x.f3.size ≤ 9223372036854775807) ∧ (0 ≤ x.f4 ∧ x.f4 ≤ 18446744073709551615)) ∧ Kd.C k40 W A0 l.length l ∧ l.length ≤ c0 := by
    obtain ⟨fuel, hf⟩ := h0
    rcases Go.Deep.open_slice Try.underlying36 hf with ⟨hcs, _⟩ | ⟨x, len, cap, m, n, D, Pl, hcs, _, hl, hm, hmm, hx, hel⟩
    · simp [Value.cells] at hcs
      obtain ⟨rfl, rfl, rfl⟩ := hcs
      exact ⟨[], rfl, by simp, by simp, Kd_C_none_ _ _, Nat.le_refl _⟩
    · simp [Value.cells] at hcs
      obtain ⟨rfl, rfl, rfl⟩ := hcs
      have hlm : len0 ≤ m := by rw [hmm]; split <;> omega
      have ys : len0 * 48 ≤ 140737488351232 := by
        obtain ⟨hx1, _⟩ := Prod.mk.inj hx
        rw [hx1] at hsz
        have z := sized_slice hsz (j := 0) (t := 36) rfl rfl Try.underlying36
        simp only [List.length_map, List.length_range] at z
        rw [show Try.prog.bytesOf 40 = 48 by kernel_rfl] at z
        exact Nat.le_trans (Nat.mul_le_mul_right _ (Nat.le_add_right _ _)) z
      exact rows_of_ (d := k40) (Q := fun x => (0 ≤ x.f0 ∧ x.f0 ≤ 255) ∧ (0 ≤ x.f1 ∧ x.f1 ≤ 18446744073709551615) ∧ (-9223372036854775808 ≤ x.f2 ∧ x.f2 ≤ 9223372036854775807) ∧ (x.f3.size ≤ 9223372036854775807) ∧ (0 ≤ x.f4 ∧ x.f4 ≤ 18446744073709551615)) z40 W x len0 c0 48 5 hl ys (by decide) rfl (fun i hi => by
        obtain ⟨cs', h1, h2⟩ := hel i (by omega)
        obtain ⟨y, hy, hb⟩ := elem_40 h2
        exact ⟨y, cs', by rw [cells_40] at h1; exact h1, hy, hb⟩)
  clear hA0 hval0 hsz0 hsz
  obtain ⟨kk_, hpure⟩ := pure_proved l0 y0 hw0
  refine (arrearslaw08_QuillLays.calls kk_ _ _ l0 true W hr0 hc0 hpure rfl).mono fun e W' hend => ?_
  obtain ⟨he, bel0⟩ := hend
  have bel : Below W.heap.size W W' := bel0
  subst he
  exact ⟨_, rfl, _, _, _, [], _, [], hW', trodAll_mk1 (shut_bool Try.underlying4 _), (trodAll_cons_mk (Below.trod laidOut_ (by kernel_rfl) (of_decide_eq_true (by kernel_rfl)) k0 bel lt0) trodAll_mk0), rfl, bel.frame _, fun h => by cases h⟩
theorem over_ : Rows.quillLaysRow.holds Try.pinned (OpenSpec.ofChange Rows.quillLaysSpec) :=
  OpenClaim.holds_of_wide 6 Try.f6 rfl rfl rfl rfl rfl rfl rfl ⟨rfl, rfl, rfl, rfl, rfl⟩ rfl rfl rfl rfl rfl (by kernel_rfl) Try.func6 (by kernel_rfl)
    (of_decide_eq_true (by kernel_rfl)) (by unfold Func.isWrapper; first | (rw [if_pos (by decide +kernel)]; kernel_rfl) | (rw [if_neg (by decide +kernel)]; exact ⟨rfl, rfl⟩))
    (fun os started H enc _ => lifted_ os started H enc)
end Go.Proofs.Ytdojgjbiilnjpaa.PQuillLays
namespace Go.Proofs.Ytdojgjbiilnjpaa
/-- The statement, under a short name, for the claim. -/
theorem quillLays_holds : Rows.QuillLaysSaid := PQuillLays.over_
#print axioms quillLays_holds
end Go.Proofs.Ytdojgjbiilnjpaa
