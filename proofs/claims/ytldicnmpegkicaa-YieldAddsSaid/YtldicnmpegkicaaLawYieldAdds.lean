/- The law arrears/arrearslaw09.YieldAdds holds: called with whatever arguments it returns true and leaves them as they were. Conditions: none beyond the given row's own. -/
-- Printed by a program of this session's (pwrow.py); Lean checks it.
import Derived.Test.YtldicnmpegkicaaRows
import Derived.Test.YtldicnmpegkicaaPYieldAddsx4
import Derived.Test.YtldicnmpegkicaaPureYieldAdds
import Derived.WalkKit
import Derived.ProofKit
import Derived.OpenShut
import Derived.ShutString
import Derived.ChangeOld
import Derived.Below
import Derived.SizedLaws
import Derived.Lib.SmallJoins
import Derived.Deep.Slices
import Derived.Test.YtldicnmpegkicaaWSized
namespace Go.Proofs.Ytldicnmpegkicaa.PYieldAdds
open Go.ChangeShapes Go.WideShapes Go.ChangeAt Go.RowKit
open Go.Proofs.YtldicnmpegkicaaW.PrintWords
open Go.ChangeMaps (open_string shut_string)
set_option linter.unusedVariables false
set_option linter.unusedSimpArgs false
theorem own_ : ownKnob Try.prog.godebug = none := by kernel_rfl
theorem trod_int_mk_ {H : Type} {enc : TypeId × Value → H} {P : Program} {w : World} {base : Nat} {spare : Nat → Bool} {held : Bool} {t : TypeId} {k : IntKind} {n : Int} (hu : P.underlying t = some (.int k)) (hw : (Lit.int k n).wf = true) : DataW.trod enc P w base spare held 1 t [.int k n] = some (.lit (.int k n), []) := by
  simp [DataW.trod, hu, hw]
theorem laidOut_ : laidOutB Try.prog = true := by kernel_rfl
set_option maxRecDepth 100000 in
set_option maxHeartbeats 4000000 in
theorem lifted_ (os : Os) (started : os.Started) (H : Type) (enc : TypeId × Value → H) :
    ReturnsInHanded {} Try.checked os 3 .any (Rows.yieldAddsSpec.pre6 enc Try.prog Try.f3 Rows.yieldAddsRow.domain false) (Rows.yieldAddsSpec.post enc Try.prog Try.f3 false true false false) := by
  refine returnsInHanded_of_change_sized (C := Try.checked) own_ started (by kernel_rfl) Try.func3
    (ChangeSpec.witness6 (enc := enc) (C := Try.checked) false ⟨#[], #[.agg #[.int .u32 0, .int .u8 0], .int .i64 0, .slice none 0 0, .int .u64 0], []⟩ 8 (by kernel_rfl) (by kernel_rfl) (by kernel_rfl) (by kernel_rfl)) ?_
  intro W base args ds gs before hval0 hW hcnd hsz0 _
  have hsz : (DataW.weightsEach Try.prog (Try.f3.params.toList ++ Rows.yieldAddsSpec.plain.varTypes Try.prog) (ds ++ gs)).all (· ≤ reachBytes) = true := hsz0
  have hval : ∀ (j : Nat) t v, Try.f3.params[j]? = some t → args[j]? = some v → Value.okWide Try.prog W .any base t v := hval0
  have hW' := hW
  obtain ⟨p, q, hA0, hV, rfl, hfz, hnd⟩ := hW
  have hA : DataW.TrodAll enc Try.prog W 0 (fun _ => true) true Try.f3.params.toList args.toList ds p := hA0
  rw [Try.params3] at hA hval hsz
  obtain ⟨v0, vs0, d0, ds0, p0, q0, hargs, rfl, rfl, h0, r0⟩ := trodAll_cons hA
  obtain ⟨v1, vs1, d1, ds1, p1, q1, rfl, rfl, rfl, h1, r1⟩ := trodAll_cons r0
  obtain ⟨v2, vs2, d2, ds2, p2, q2, rfl, rfl, rfl, h2, r2⟩ := trodAll_cons r1
  obtain ⟨v3, vs3, d3, ds3, p3, q3, rfl, rfl, rfl, h3, r3⟩ := trodAll_cons r2
  obtain ⟨rfl, rfl, rfl⟩ := trodAll_nil r3
  obtain rfl : args = #[v0, v1, v2, v3] := by cases args; simp_all
  obtain ⟨rfl, rfl⟩ := trodVars_none hV
  obtain ⟨c0_0, c0_1, y0_0, y0_1, m0, rfl, rfl, rfl, hy0_0, hy0_1⟩ := Go.Joins.open_agg2 Try.underlying24 (by kernel_rfl) (by kernel_rfl) (hval 0 24 v0 rfl rfl) h0
  obtain ⟨a0_0, e0_0, rfl, w0_0⟩ := DataW.trod_int Try.underlying22 hy0_0
  obtain rfl : c0_0 = .int .u32 a0_0 := by simpa using e0_0
  obtain ⟨a0_1, e0_1, rfl, w0_1⟩ := DataW.trod_int Try.underlying5 hy0_1
  obtain rfl : c0_1 = .int .u8 a0_1 := by simpa using e0_1
  obtain ⟨a1, rfl, rfl, rfl, w1⟩ := open_int Try.underlying25 (hval 1 25 v1 rfl rfl) h1
  obtain ⟨A2, len2, c2, rfl⟩ := okWide_slice Try.underlying26 (hval 2 26 v2 rfl rfl)
  have k2 := h2
  have lt2 : ∀ x ∈ p2, x.block < W.heap.size := by obtain ⟨m, hm⟩ := k2; exact DataW.trod_lt m _ _ _ hm
  have y2 : len2 * 2 ≤ 140737488351232 := sized_ints hsz (j := 2) (t := 26) rfl rfl Try.underlying26 Try.underlying30 (by kernel_rfl) (by kernel_rfl) h2
  obtain ⟨l2, rfl, hr2, hm2, hw2, hc2⟩ : ∃ l : List Int, len2 = l.length ∧ ReadsInt W .u16 A2 l.length l ∧ l.length ≤ maxLen ∧ (∀ x ∈ l, (Lit.int .u16 x).wf = true) ∧ l.length ≤ c2 := by
    obtain ⟨fuel, hf⟩ := h2
    rcases open_ints Try.underlying26 Try.underlying30 (by kernel_rfl) hf with ⟨hcs, _⟩ | ⟨x, l, c, zs, hcs, _, hl, hm, hz, _, hcell, hwz⟩
    · simp [Value.cells] at hcs
      obtain ⟨rfl, rfl, rfl⟩ := hcs
      obtain ⟨l, h1, h2, h3, h4, h5⟩ := ReadsInt.ofRowC (w := W) (k := .u16) (.inl ⟨rfl, rfl, rfl, rfl⟩)
      exact ⟨l, h1, h2, h3, h4, h5⟩
    · simp [Value.cells] at hcs
      obtain ⟨rfl, rfl, rfl⟩ := hcs
      obtain ⟨l, h1, h2, h3, h4, h5⟩ := ReadsInt.ofRowC (w := W) (k := .u16) (.inr ⟨_, rfl, hl, hm, by simpa using hz, hcell, hwz⟩)
      exact ⟨l, h1, h2, h3, h4, h5⟩
  obtain ⟨a3, rfl, rfl, rfl, w3⟩ := open_int Try.underlying27 (hval 3 27 v3 rfl rfl) h3
  clear hA0 hval0 hsz0 hsz
  obtain ⟨kk_, hpure⟩ := pure_proved a0_0 a0_1 a1 l2 a3 (bounds_u32 w0_0) (bounds_u8 w0_1) (bounds_i64 w1) y2 (fun x hx => bounds_u16 (hw2 x hx)) (bounds_u64 w3)
  refine (arrearslaw09_YieldAdds.calls kk_ a0_0 a0_1 a1 _ _ l2 a3 true W (Kd.C_of_reads (d := (0 : Int)) (h1 := fun _ => rfl) hr2) hc2 hpure).mono fun e W' hend => ?_
  obtain ⟨he, bel0⟩ := hend
  have bel : Below W.heap.size W W' := bel0
  subst he
  exact ⟨_, rfl, _, _, _, [], _, [], hW', trodAll_mk1 (shut_bool Try.underlying4 _), (trodAll_cons_mk (Go.Joins.shut_agg2 (y0 := (.lit (.int .u32 a0_0), [])) (y1 := (.lit (.int .u8 a0_1), [])) Try.underlying24 (by kernel_rfl) (by kernel_rfl) ⟨1, trod_int_mk_ Try.underlying22 w0_0⟩ ⟨1, trod_int_mk_ Try.underlying5 w0_1⟩) (trodAll_cons_mk (shut_int Try.underlying25 w1) (trodAll_cons_mk (Below.trod laidOut_ (by kernel_rfl) (of_decide_eq_true (by kernel_rfl)) k2 bel lt2) (trodAll_cons_mk (shut_int Try.underlying27 w3) trodAll_mk0)))), rfl, bel.frame _, fun h => by cases h⟩
theorem over_ : Rows.yieldAddsRow.holds Try.pinned (OpenSpec.ofChange Rows.yieldAddsSpec) :=
  OpenClaim.holds_of_wide 3 Try.f3 rfl rfl rfl rfl rfl rfl rfl ⟨rfl, rfl, rfl, rfl, rfl⟩ rfl rfl rfl rfl rfl (by kernel_rfl) Try.func3 (by kernel_rfl)
    (of_decide_eq_true (by kernel_rfl)) (by unfold Func.isWrapper; first | (rw [if_pos (by decide +kernel)]; kernel_rfl) | (rw [if_neg (by decide +kernel)]; exact ⟨rfl, rfl⟩))
    (fun os started H enc _ => lifted_ os started H enc)
end Go.Proofs.Ytldicnmpegkicaa.PYieldAdds
namespace Go.Proofs.Ytldicnmpegkicaa
/-- The statement, under a short name, for the claim. -/
theorem yieldAdds_holds : Rows.YieldAddsSaid := PYieldAdds.over_
#print axioms yieldAdds_holds
end Go.Proofs.Ytldicnmpegkicaa
