-- Printed by a wrapper of this session's round the kit's print.py; Lean checks it.
import Derived.Test.YtdojgjbiilnjpaaDoorProg
import Derived.Below
import Derived.Deep.Draws
import Derived.Deep.AppendLies
import Derived.Maps.AppendAt
import Derived.OwnWalk
import Derived.Laws.BytesArg
import Derived.Laws.MakeOwn
import Derived.Laws.OwnMore
import Derived.Deep.OwnRows
import Derived.Tactics
import Derived.Lib.ConvBytes
import Derived.Laws.Slices
import Derived.WalkKit
import Derived.KernelRfl
import Derived.RowKit3
import Derived.Deep.LoopGhost
import Derived.Deep.QuietTactic
import Derived.BigQuiet
import Derived.WideLaws
import Derived.Deep.DeepCutAuto
import Derived.Deep.CutBlock
import Derived.Deep.RegionHeld3
import Derived.Laws.Rows
import Derived.Lib.AppendStr
import Derived.ArgAppend
import Derived.Laws.IdiomCopy
import Derived.OrdersHeld
import Derived.Laws.BitsLemmas
import Derived.RowKit
import Derived.Test.YtdojgjbiilnjpaaDoorMlaidQuillTakes
import Derived.Lib.ItoaNum
import Derived.Test.YtdojgjbiilnjpaaDoorMshelf
import Derived.Test.YtdojgjbiilnjpaaDoorMquilbase
import Derived.Test.YtdojgjbiilnjpaaDoorMquilw
import Derived.Test.YtdojgjbiilnjpaaDoorMquilx
import Derived.Test.YtdojgjbiilnjpaaDoorMquill
import Derived.Test.YtdojgjbiilnjpaaDoorMquilm
import Derived.Test.YtdojgjbiilnjpaaDoorMquiln
import Derived.Test.YtdojgjbiilnjpaaDoorMquilo
import Derived.Test.YtdojgjbiilnjpaaDoorMquilp
import Derived.Test.YtdojgjbiilnjpaaDoorMquilq
import Derived.Test.YtdojgjbiilnjpaaDoorMquilr
import Derived.Test.YtdojgjbiilnjpaaDoorMquils
import Derived.Test.YtdojgjbiilnjpaaDoorMascode2
import Derived.Test.YtdojgjbiilnjpaaDoorMquilmath
import Derived.Test.YtdojgjbiilnjpaaDoorMquilref
import Derived.Test.YtdojgjbiilnjpaaDoorMquiltake
import Derived.Test.YtdojgjbiilnjpaaDoorWWords
import Derived.Test.YtdojgjbiilnjpaaDoorWLast
import Derived.Test.YtdojgjbiilnjpaaDoorWTab
import Derived.Test.YtdojgjbiilnjpaaDoorWFour
import Derived.Test.YtdojgjbiilnjpaaDoorWQPut
import Derived.Test.YtdojgjbiilnjpaaDoorWApart
import Derived.Test.YtdojgjbiilnjpaaDoorWArr
import Derived.Test.YtdojgjbiilnjpaaDoorWZeros
import Derived.Test.YtdojgjbiilnjpaaDoorWFoot
import Derived.Test.YtdojgjbiilnjpaaDoorWKept
import Derived.Test.YtdojgjbiilnjpaaDoorWShare
import Derived.Test.YtdojgjbiilnjpaaDoorWN
import Derived.Test.YtdojgjbiilnjpaaDoorWFootNe
import Derived.Test.YtdojgjbiilnjpaaDoorWAt
import Derived.Test.YtdojgjbiilnjpaaDoorWEqStruct
import Derived.Test.YtdojgjbiilnjpaaDoorWRepsOne
import Derived.Test.YtdojgjbiilnjpaaDoorWInv
import Derived.Test.YtdojgjbiilnjpaaDoorWInvWords
import Derived.Test.YtdojgjbiilnjpaaDoorWGuard
import Derived.Test.YtdojgjbiilnjpaaDoorWNEv
import Derived.Test.YtdojgjbiilnjpaaDoorWMore
namespace Go.Proofs.YtdojgjbiilnjpaaDoor.PQuillTakes
open Go.RowKit Go.Proofs.YtdojgjbiilnjpaaDoorW.PrintWords Go.Proofs.YtdojgjbiilnjpaaDoorW.PrintLast Go.Proofs.YtdojgjbiilnjpaaDoorW.PrintMore
attribute [local go_sem] max2_int min2_int max_two min_two max_three min_three max_four min_four   -- for this text's walks alone
set_option linter.unusedVariables false
set_option linter.unusedSimpArgs false



def errW : Option Int → Value
  | none => .nilIface
  | some c => .iface 39 (.int .i64 c)
theorem errW_none : errW none = .nilIface := rfl
theorem errW_some (c : Int) : errW (some c) = .iface 39 (.int .i64 c) := rfl

theorem info5 : (Tryd.prog.info? 5).map (fun i => (i.zero, i.size, i.bytes)) = some (some (.int .u8 0), 1, 1) := by kernel_rfl
theorem info31 : (Tryd.prog.info? 31).map (fun i => (i.zero, i.size, i.bytes)) = some (some (.agg #[(.int .u8 0), (.int .u64 0), (.int .i64 0), (.string ⟨#[]⟩), (.int .u64 0)]), 5, 48) := by kernel_rfl
-- the values' own types
/-! #### struct type 31 -/
structure S31 where
  f0 : Int
  f1 : Int
  f2 : Int
  f3 : ByteArray
  f4 : Int
def z31 : S31 := ⟨(0 : Int), (0 : Int), (0 : Int), (⟨#[]⟩ : ByteArray), (0 : Int)⟩
def k31 : Kd S31 := Kd.iso (Kd.pair (Kd.int .u8) (Kd.pair (Kd.int .u64) (Kd.pair (Kd.int .i64) (Kd.pair Kd.string (Kd.int .u64))))) (fun x : S31 => (x.f0, x.f1, x.f2, x.f3, x.f4))
theorem k31_open {w : World} {x : S31} {cs : List Value} (h : k31.K w x cs) : cs = [.int .u8 x.f0, .int .u64 x.f1, .int .i64 x.f2, .string x.f3, .int .u64 x.f4] := by
  obtain ⟨_, _, rfl, rfl, ⟨_, _, rfl, rfl, ⟨_, _, rfl, rfl, ⟨_, _, rfl, rfl, rfl⟩⟩⟩⟩ := h
  exact rfl
theorem k31_openM {w : World} {base : Nat} {ok : Nat → Prop} {x : S31} {cs : List Value} (h : k31.M w base ok x cs) : cs = [.int .u8 x.f0, .int .u64 x.f1, .int .i64 x.f2, .string x.f3, .int .u64 x.f4] := by
  obtain ⟨_, _, rfl, rfl, ⟨_, _, rfl, rfl, ⟨_, _, rfl, rfl, ⟨_, _, rfl, rfl, rfl⟩⟩⟩⟩ := h
  exact rfl
theorem k31_mk (w : World) (x : S31)  : k31.K w x [.int .u8 x.f0, .int .u64 x.f1, .int .i64 x.f2, .string x.f3, .int .u64 x.f4] := ⟨[.int .u8 x.f0], [.int .u64 x.f1, .int .i64 x.f2, .string x.f3, .int .u64 x.f4], rfl, rfl, ⟨[.int .u64 x.f1], [.int .i64 x.f2, .string x.f3, .int .u64 x.f4], rfl, rfl, ⟨[.int .i64 x.f2], [.string x.f3, .int .u64 x.f4], rfl, rfl, ⟨[.string x.f3], [.int .u64 x.f4], rfl, rfl, rfl⟩⟩⟩⟩
theorem k31_mkM (w : World) (base : Nat) (ok : Nat → Prop) (x : S31)  : k31.M w base ok x [.int .u8 x.f0, .int .u64 x.f1, .int .i64 x.f2, .string x.f3, .int .u64 x.f4] := ⟨[.int .u8 x.f0], [.int .u64 x.f1, .int .i64 x.f2, .string x.f3, .int .u64 x.f4], rfl, rfl, ⟨[.int .u64 x.f1], [.int .i64 x.f2, .string x.f3, .int .u64 x.f4], rfl, rfl, ⟨[.int .i64 x.f2], [.string x.f3, .int .u64 x.f4], rfl, rfl, ⟨[.string x.f3], [.int .u64 x.f4], rfl, rfl, rfl⟩⟩⟩⟩
def rd_T31 (xs : List S31) (i : Int) : S31 := xs.getD i.toNat z31
theorem at_T31 {w : World} {A : Option Addr} {n : Nat} {xs : List S31} (h : Kd.C k31 w A n xs) (i : Int) (h0 : 0 ≤ i) (h1 : i < n) : ∃ ad , A = some ad ∧ w.cell? (ad.add (i.toNat * 5)) = some (.int .u8 (rd_T31 xs i).f0) ∧ w.cell? ⟨(ad.add (i.toNat * 5)).block, (ad.add (i.toNat * 5)).off + 1, none⟩ = some (.int .u64 (rd_T31 xs i).f1) ∧ w.cell? ⟨(ad.add (i.toNat * 5)).block, (ad.add (i.toNat * 5)).off + 2, none⟩ = some (.int .i64 (rd_T31 xs i).f2) ∧ w.cell? ⟨(ad.add (i.toNat * 5)).block, (ad.add (i.toNat * 5)).off + 3, none⟩ = some (.string (rd_T31 xs i).f3) ∧ w.cell? ⟨(ad.add (i.toNat * 5)).block, (ad.add (i.toNat * 5)).off + 4, none⟩ = some (.int .u64 (rd_T31 xs i).f4) := by
  obtain ⟨ad, c, e, _, hK, hc0⟩ := Kd.C_get h z31 i h0 h1
  have hc : ∀ j u, c[j]? = some u → w.cell? (ad.add (i.toNat * 5 + j)) = some u := hc0
  obtain rfl := k31_open hK
  exact ⟨ad, e, hc 0 _ rfl, by rw [← add_field _ _ 1 (by omega)]; exact hc 1 _ rfl, by rw [← add_field _ _ 2 (by omega)]; exact hc 2 _ rfl, by rw [← add_field _ _ 3 (by omega)]; exact hc 3 _ rfl, by rw [← add_field _ _ 4 (by omega)]; exact hc 4 _ rfl⟩

def rd_L5 (xs : List (List Int)) (i : Int) : (List Int) := xs.getD i.toNat ([] : List Int)
theorem at_L5 {w : World} {A : Option Addr} {n : Nat} {xs : List (List Int)} (h : Kd.C (Kd.slice 5 (Kd.int .u8)) w A n xs) (i : Int) (h0 : 0 ≤ i) (h1 : i < n) : ∃ ad A0 c0, A = some ad ∧ w.cell? (ad.add i.toNat) = some (.slice A0 (rd_L5 xs i).length c0) ∧ (rd_L5 xs i).length ≤ c0 ∧ (Kd.int .u8).C w A0 (rd_L5 xs i).length (rd_L5 xs i) := by
  obtain ⟨ad, c, e, _, hK, hc0⟩ := Kd.C_get h ([] : List Int) i h0 h1
  have hc : ∀ j u, c[j]? = some u → w.cell? (ad.add (i.toNat * 1 + j)) = some u := hc0
  obtain ⟨A0, c0, rfl, l0, g0⟩ := hK
  exact ⟨ad, A0, c0, e, by have hq := hc 0 _ rfl; rwa [Nat.mul_one, Nat.add_zero] at hq, l0, g0⟩

def rd_L6 (xs : List (List S31)) (i : Int) : (List S31) := xs.getD i.toNat ([] : List S31)
theorem at_L6 {w : World} {A : Option Addr} {n : Nat} {xs : List (List S31)} (h : Kd.C (Kd.slice 31 k31) w A n xs) (i : Int) (h0 : 0 ≤ i) (h1 : i < n) : ∃ ad A0 c0, A = some ad ∧ w.cell? (ad.add i.toNat) = some (.slice A0 (rd_L6 xs i).length c0) ∧ (rd_L6 xs i).length ≤ c0 ∧ k31.C w A0 (rd_L6 xs i).length (rd_L6 xs i) := by
  obtain ⟨ad, c, e, _, hK, hc0⟩ := Kd.C_get h ([] : List S31) i h0 h1
  have hc : ∀ j u, c[j]? = some u → w.cell? (ad.add (i.toNat * 1 + j)) = some u := hc0
  obtain ⟨A0, c0, rfl, l0, g0⟩ := hK
  exact ⟨ad, A0, c0, e, by have hq := hc 0 _ rfl; rwa [Nat.mul_one, Nat.add_zero] at hq, l0, g0⟩

end Go.Proofs.YtdojgjbiilnjpaaDoor.PQuillTakes
