-- Written by a program of this session (wip/tools/pp.py) out of what the kit's print.py prints over this seat's translation. Not trusted: Lean checks it.
import Derived.Test.YtkmnpnbfeiobiaaDoorProg
import Derived.Below
import Derived.Deep.Draws
import Derived.Deep.AppendLies
import Derived.Maps.AppendAt
import Derived.OwnWalk
import Derived.Laws.BytesArg
import Derived.Laws.MakeOwn
import Derived.Laws.OwnMore
import Derived.Deep.OwnRows
import Derived.Tactics
import Derived.Lib.ConvBytes
import Derived.Laws.Slices
import Derived.WalkKit
import Derived.KernelRfl
import Derived.RowKit3
import Derived.Deep.LoopGhost
import Derived.Deep.QuietTactic
import Derived.BigQuiet
import Derived.WideLaws
import Derived.Deep.DeepCutAuto
import Derived.Deep.CutBlock
import Derived.Deep.RegionHeld3
import Derived.Laws.Rows
import Derived.Lib.AppendStr
import Derived.ArgAppend
import Derived.Laws.IdiomCopy
import Derived.OrdersHeld
import Derived.Laws.BitsLemmas
import Derived.RowKit
import Derived.Test.YtkmnpnbfeiobiaaDoorWWords
import Derived.Test.YtkmnpnbfeiobiaaDoorWLast
import Derived.Test.YtkmnpnbfeiobiaaDoorWTab
import Derived.Test.YtkmnpnbfeiobiaaDoorWFour
import Derived.Test.YtkmnpnbfeiobiaaDoorWQPut
import Derived.Test.YtkmnpnbfeiobiaaDoorWApart
import Derived.Test.YtkmnpnbfeiobiaaDoorWArr
import Derived.Test.YtkmnpnbfeiobiaaDoorWZeros
import Derived.Test.YtkmnpnbfeiobiaaDoorWFoot
import Derived.Test.YtkmnpnbfeiobiaaDoorWKept
import Derived.Test.YtkmnpnbfeiobiaaDoorWShare
import Derived.Test.YtkmnpnbfeiobiaaDoorWN
import Derived.Test.YtkmnpnbfeiobiaaDoorWFootNe
import Derived.Test.YtkmnpnbfeiobiaaDoorWAt
import Derived.Test.YtkmnpnbfeiobiaaDoorWEqStruct
import Derived.Test.YtkmnpnbfeiobiaaDoorWRepsOne
import Derived.Test.YtkmnpnbfeiobiaaDoorWInv
import Derived.Test.YtkmnpnbfeiobiaaDoorWInvWords
import Derived.Test.YtkmnpnbfeiobiaaDoorWGuard
import Derived.Test.YtkmnpnbfeiobiaaDoorWNEv
import Derived.Test.YtkmnpnbfeiobiaaDoorWMore
namespace Go.Proofs.YtkmnpnbfeiobiaaDoor.QSa
open Go.RowKit Go.Proofs.YtkmnpnbfeiobiaaDoorW.PrintWords Go.Proofs.YtkmnpnbfeiobiaaDoorW.PrintLast Go.Proofs.YtkmnpnbfeiobiaaDoorW.PrintMore
attribute [local go_sem] max2_int min2_int max_two min_two max_three min_three max_four min_four   -- for this text's walks alone
set_option linter.unusedVariables false
set_option linter.unusedSimpArgs false



def errW : Option Int → Value
  | none => .nilIface
  | some c => .iface 0 (.int .i64 c)
theorem errW_none : errW none = .nilIface := rfl
theorem errW_some (c : Int) : errW (some c) = .iface 0 (.int .i64 c) := rfl

-- the values' own types
/-! #### struct type 25 -/
structure S25 where
  f0 : Int
  f1 : ByteArray
  f2 : ByteArray
  f3 : ByteArray
  f4 : Bool
  f5 : Int
def z25 : S25 := ⟨(0 : Int), (⟨#[]⟩ : ByteArray), (⟨#[]⟩ : ByteArray), (⟨#[]⟩ : ByteArray), false, (0 : Int)⟩
def k25 : Kd S25 := Kd.iso (Kd.pair (Kd.int .i64) (Kd.pair Kd.string (Kd.pair Kd.string (Kd.pair Kd.string (Kd.pair Kd.bool (Kd.int .i64)))))) (fun x : S25 => (x.f0, x.f1, x.f2, x.f3, x.f4, x.f5))
theorem k25_open {w : World} {x : S25} {cs : List Value} (h : k25.K w x cs) : cs = [.int .i64 x.f0, .string x.f1, .string x.f2, .string x.f3, .bool x.f4, .int .i64 x.f5] := by
  obtain ⟨_, _, rfl, rfl, ⟨_, _, rfl, rfl, ⟨_, _, rfl, rfl, ⟨_, _, rfl, rfl, ⟨_, _, rfl, rfl, rfl⟩⟩⟩⟩⟩ := h
  exact rfl
theorem k25_openM {w : World} {base : Nat} {ok : Nat → Prop} {x : S25} {cs : List Value} (h : k25.M w base ok x cs) : cs = [.int .i64 x.f0, .string x.f1, .string x.f2, .string x.f3, .bool x.f4, .int .i64 x.f5] := by
  obtain ⟨_, _, rfl, rfl, ⟨_, _, rfl, rfl, ⟨_, _, rfl, rfl, ⟨_, _, rfl, rfl, ⟨_, _, rfl, rfl, rfl⟩⟩⟩⟩⟩ := h
  exact rfl
theorem k25_mk (w : World) (x : S25)  : k25.K w x [.int .i64 x.f0, .string x.f1, .string x.f2, .string x.f3, .bool x.f4, .int .i64 x.f5] := ⟨[.int .i64 x.f0], [.string x.f1, .string x.f2, .string x.f3, .bool x.f4, .int .i64 x.f5], rfl, rfl, ⟨[.string x.f1], [.string x.f2, .string x.f3, .bool x.f4, .int .i64 x.f5], rfl, rfl, ⟨[.string x.f2], [.string x.f3, .bool x.f4, .int .i64 x.f5], rfl, rfl, ⟨[.string x.f3], [.bool x.f4, .int .i64 x.f5], rfl, rfl, ⟨[.bool x.f4], [.int .i64 x.f5], rfl, rfl, rfl⟩⟩⟩⟩⟩
theorem k25_mkM (w : World) (base : Nat) (ok : Nat → Prop) (x : S25)  : k25.M w base ok x [.int .i64 x.f0, .string x.f1, .string x.f2, .string x.f3, .bool x.f4, .int .i64 x.f5] := ⟨[.int .i64 x.f0], [.string x.f1, .string x.f2, .string x.f3, .bool x.f4, .int .i64 x.f5], rfl, rfl, ⟨[.string x.f1], [.string x.f2, .string x.f3, .bool x.f4, .int .i64 x.f5], rfl, rfl, ⟨[.string x.f2], [.string x.f3, .bool x.f4, .int .i64 x.f5], rfl, rfl, ⟨[.string x.f3], [.bool x.f4, .int .i64 x.f5], rfl, rfl, ⟨[.bool x.f4], [.int .i64 x.f5], rfl, rfl, rfl⟩⟩⟩⟩⟩
def rd_T25 (xs : List S25) (i : Int) : S25 := xs.getD i.toNat z25
theorem at_T25 {w : World} {A : Option Addr} {n : Nat} {xs : List S25} (h : Kd.C k25 w A n xs) (i : Int) (h0 : 0 ≤ i) (h1 : i < n) : ∃ ad , A = some ad ∧ w.cell? (ad.add (i.toNat * 6)) = some (.int .i64 (rd_T25 xs i).f0) ∧ w.cell? ⟨(ad.add (i.toNat * 6)).block, (ad.add (i.toNat * 6)).off + 1, none⟩ = some (.string (rd_T25 xs i).f1) ∧ w.cell? ⟨(ad.add (i.toNat * 6)).block, (ad.add (i.toNat * 6)).off + 2, none⟩ = some (.string (rd_T25 xs i).f2) ∧ w.cell? ⟨(ad.add (i.toNat * 6)).block, (ad.add (i.toNat * 6)).off + 3, none⟩ = some (.string (rd_T25 xs i).f3) ∧ w.cell? ⟨(ad.add (i.toNat * 6)).block, (ad.add (i.toNat * 6)).off + 4, none⟩ = some (.bool (rd_T25 xs i).f4) ∧ w.cell? ⟨(ad.add (i.toNat * 6)).block, (ad.add (i.toNat * 6)).off + 5, none⟩ = some (.int .i64 (rd_T25 xs i).f5) := by
  obtain ⟨ad, c, e, _, hK, hc0⟩ := Kd.C_get h z25 i h0 h1
  have hc : ∀ j u, c[j]? = some u → w.cell? (ad.add (i.toNat * 6 + j)) = some u := hc0
  obtain rfl := k25_open hK
  exact ⟨ad, e, hc 0 _ rfl, by rw [← add_field _ _ 1 (by omega)]; exact hc 1 _ rfl, by rw [← add_field _ _ 2 (by omega)]; exact hc 2 _ rfl, by rw [← add_field _ _ 3 (by omega)]; exact hc 3 _ rfl, by rw [← add_field _ _ 4 (by omega)]; exact hc 4 _ rfl, by rw [← add_field _ _ 5 (by omega)]; exact hc 5 _ rfl⟩

/-! #### struct type 27 -/
structure S27 where
  f0 : S25
  f1 : Int
  f2 : Bool
  f3 : Int
  f4 : Int
  f5 : Int
  f6 : Int
def z27 : S27 := ⟨z25, (0 : Int), false, (0 : Int), (0 : Int), (0 : Int), (0 : Int)⟩
def k27 : Kd S27 := Kd.iso (Kd.pair k25 (Kd.pair (Kd.int .i64) (Kd.pair Kd.bool (Kd.pair (Kd.int .i64) (Kd.pair (Kd.int .i64) (Kd.pair (Kd.int .i64) (Kd.int .i64))))))) (fun x : S27 => (x.f0, x.f1, x.f2, x.f3, x.f4, x.f5, x.f6))
theorem k27_open {w : World} {x : S27} {cs : List Value} (h : k27.K w x cs) : cs = [.int .i64 x.f0.f0, .string x.f0.f1, .string x.f0.f2, .string x.f0.f3, .bool x.f0.f4, .int .i64 x.f0.f5, .int .i64 x.f1, .bool x.f2, .int .i64 x.f3, .int .i64 x.f4, .int .i64 x.f5, .int .i64 x.f6] := by
  obtain ⟨_, _, rfl, s0, ⟨_, _, rfl, rfl, ⟨_, _, rfl, rfl, ⟨_, _, rfl, rfl, ⟨_, _, rfl, rfl, ⟨_, _, rfl, rfl, rfl⟩⟩⟩⟩⟩⟩ := h
  obtain rfl := k25_open s0
  exact rfl
theorem k27_openM {w : World} {base : Nat} {ok : Nat → Prop} {x : S27} {cs : List Value} (h : k27.M w base ok x cs) : cs = [.int .i64 x.f0.f0, .string x.f0.f1, .string x.f0.f2, .string x.f0.f3, .bool x.f0.f4, .int .i64 x.f0.f5, .int .i64 x.f1, .bool x.f2, .int .i64 x.f3, .int .i64 x.f4, .int .i64 x.f5, .int .i64 x.f6] := by
  obtain ⟨_, _, rfl, s0, ⟨_, _, rfl, rfl, ⟨_, _, rfl, rfl, ⟨_, _, rfl, rfl, ⟨_, _, rfl, rfl, ⟨_, _, rfl, rfl, rfl⟩⟩⟩⟩⟩⟩ := h
  obtain rfl := k25_openM s0
  exact rfl
theorem k27_mk (w : World) (x : S27)  : k27.K w x [.int .i64 x.f0.f0, .string x.f0.f1, .string x.f0.f2, .string x.f0.f3, .bool x.f0.f4, .int .i64 x.f0.f5, .int .i64 x.f1, .bool x.f2, .int .i64 x.f3, .int .i64 x.f4, .int .i64 x.f5, .int .i64 x.f6] := ⟨[.int .i64 x.f0.f0, .string x.f0.f1, .string x.f0.f2, .string x.f0.f3, .bool x.f0.f4, .int .i64 x.f0.f5], [.int .i64 x.f1, .bool x.f2, .int .i64 x.f3, .int .i64 x.f4, .int .i64 x.f5, .int .i64 x.f6], rfl, (k25_mk w x.f0 ), ⟨[.int .i64 x.f1], [.bool x.f2, .int .i64 x.f3, .int .i64 x.f4, .int .i64 x.f5, .int .i64 x.f6], rfl, rfl, ⟨[.bool x.f2], [.int .i64 x.f3, .int .i64 x.f4, .int .i64 x.f5, .int .i64 x.f6], rfl, rfl, ⟨[.int .i64 x.f3], [.int .i64 x.f4, .int .i64 x.f5, .int .i64 x.f6], rfl, rfl, ⟨[.int .i64 x.f4], [.int .i64 x.f5, .int .i64 x.f6], rfl, rfl, ⟨[.int .i64 x.f5], [.int .i64 x.f6], rfl, rfl, rfl⟩⟩⟩⟩⟩⟩
theorem k27_mkM (w : World) (base : Nat) (ok : Nat → Prop) (x : S27)  : k27.M w base ok x [.int .i64 x.f0.f0, .string x.f0.f1, .string x.f0.f2, .string x.f0.f3, .bool x.f0.f4, .int .i64 x.f0.f5, .int .i64 x.f1, .bool x.f2, .int .i64 x.f3, .int .i64 x.f4, .int .i64 x.f5, .int .i64 x.f6] := ⟨[.int .i64 x.f0.f0, .string x.f0.f1, .string x.f0.f2, .string x.f0.f3, .bool x.f0.f4, .int .i64 x.f0.f5], [.int .i64 x.f1, .bool x.f2, .int .i64 x.f3, .int .i64 x.f4, .int .i64 x.f5, .int .i64 x.f6], rfl, (k25_mkM w base ok x.f0 ), ⟨[.int .i64 x.f1], [.bool x.f2, .int .i64 x.f3, .int .i64 x.f4, .int .i64 x.f5, .int .i64 x.f6], rfl, rfl, ⟨[.bool x.f2], [.int .i64 x.f3, .int .i64 x.f4, .int .i64 x.f5, .int .i64 x.f6], rfl, rfl, ⟨[.int .i64 x.f3], [.int .i64 x.f4, .int .i64 x.f5, .int .i64 x.f6], rfl, rfl, ⟨[.int .i64 x.f4], [.int .i64 x.f5, .int .i64 x.f6], rfl, rfl, ⟨[.int .i64 x.f5], [.int .i64 x.f6], rfl, rfl, rfl⟩⟩⟩⟩⟩⟩
def rd_T27 (xs : List S27) (i : Int) : S27 := xs.getD i.toNat z27
theorem at_T27 {w : World} {A : Option Addr} {n : Nat} {xs : List S27} (h : Kd.C k27 w A n xs) (i : Int) (h0 : 0 ≤ i) (h1 : i < n) : ∃ ad , A = some ad ∧ w.cell? (ad.add (i.toNat * 12)) = some (.int .i64 (rd_T27 xs i).f0.f0) ∧ w.cell? ⟨(ad.add (i.toNat * 12)).block, (ad.add (i.toNat * 12)).off + 1, none⟩ = some (.string (rd_T27 xs i).f0.f1) ∧ w.cell? ⟨(ad.add (i.toNat * 12)).block, (ad.add (i.toNat * 12)).off + 2, none⟩ = some (.string (rd_T27 xs i).f0.f2) ∧ w.cell? ⟨(ad.add (i.toNat * 12)).block, (ad.add (i.toNat * 12)).off + 3, none⟩ = some (.string (rd_T27 xs i).f0.f3) ∧ w.cell? ⟨(ad.add (i.toNat * 12)).block, (ad.add (i.toNat * 12)).off + 4, none⟩ = some (.bool (rd_T27 xs i).f0.f4) ∧ w.cell? ⟨(ad.add (i.toNat * 12)).block, (ad.add (i.toNat * 12)).off + 5, none⟩ = some (.int .i64 (rd_T27 xs i).f0.f5) ∧ w.cell? ⟨(ad.add (i.toNat * 12)).block, (ad.add (i.toNat * 12)).off + 6, none⟩ = some (.int .i64 (rd_T27 xs i).f1) ∧ w.cell? ⟨(ad.add (i.toNat * 12)).block, (ad.add (i.toNat * 12)).off + 7, none⟩ = some (.bool (rd_T27 xs i).f2) ∧ w.cell? ⟨(ad.add (i.toNat * 12)).block, (ad.add (i.toNat * 12)).off + 8, none⟩ = some (.int .i64 (rd_T27 xs i).f3) ∧ w.cell? ⟨(ad.add (i.toNat * 12)).block, (ad.add (i.toNat * 12)).off + 9, none⟩ = some (.int .i64 (rd_T27 xs i).f4) ∧ w.cell? ⟨(ad.add (i.toNat * 12)).block, (ad.add (i.toNat * 12)).off + 10, none⟩ = some (.int .i64 (rd_T27 xs i).f5) ∧ w.cell? ⟨(ad.add (i.toNat * 12)).block, (ad.add (i.toNat * 12)).off + 11, none⟩ = some (.int .i64 (rd_T27 xs i).f6) := by
  obtain ⟨ad, c, e, _, hK, hc0⟩ := Kd.C_get h z27 i h0 h1
  have hc : ∀ j u, c[j]? = some u → w.cell? (ad.add (i.toNat * 12 + j)) = some u := hc0
  obtain rfl := k27_open hK
  exact ⟨ad, e, hc 0 _ rfl, by rw [← add_field _ _ 1 (by omega)]; exact hc 1 _ rfl, by rw [← add_field _ _ 2 (by omega)]; exact hc 2 _ rfl, by rw [← add_field _ _ 3 (by omega)]; exact hc 3 _ rfl, by rw [← add_field _ _ 4 (by omega)]; exact hc 4 _ rfl, by rw [← add_field _ _ 5 (by omega)]; exact hc 5 _ rfl, by rw [← add_field _ _ 6 (by omega)]; exact hc 6 _ rfl, by rw [← add_field _ _ 7 (by omega)]; exact hc 7 _ rfl, by rw [← add_field _ _ 8 (by omega)]; exact hc 8 _ rfl, by rw [← add_field _ _ 9 (by omega)]; exact hc 9 _ rfl, by rw [← add_field _ _ 10 (by omega)]; exact hc 10 _ rfl, by rw [← add_field _ _ 11 (by omega)]; exact hc 11 _ rfl⟩

/-! #### struct type 40 -/
structure S40 where
  f0 : Int
  f1 : Int
  f2 : Int
  f3 : Int
  f4 : Int
  f5 : Int
  f6 : Bool
  f7 : Int
  f8 : S27
def z40 : S40 := ⟨(0 : Int), (0 : Int), (0 : Int), (0 : Int), (0 : Int), (0 : Int), false, (0 : Int), z27⟩
def k40 : Kd S40 := Kd.iso (Kd.pair (Kd.int .i64) (Kd.pair (Kd.int .i64) (Kd.pair (Kd.int .i64) (Kd.pair (Kd.int .i64) (Kd.pair (Kd.int .i64) (Kd.pair (Kd.int .i64) (Kd.pair Kd.bool (Kd.pair (Kd.int .u64) k27)))))))) (fun x : S40 => (x.f0, x.f1, x.f2, x.f3, x.f4, x.f5, x.f6, x.f7, x.f8))
theorem k40_open {w : World} {x : S40} {cs : List Value} (h : k40.K w x cs) : cs = [.int .i64 x.f0, .int .i64 x.f1, .int .i64 x.f2, .int .i64 x.f3, .int .i64 x.f4, .int .i64 x.f5, .bool x.f6, .int .u64 x.f7, .int .i64 x.f8.f0.f0, .string x.f8.f0.f1, .string x.f8.f0.f2, .string x.f8.f0.f3, .bool x.f8.f0.f4, .int .i64 x.f8.f0.f5, .int .i64 x.f8.f1, .bool x.f8.f2, .int .i64 x.f8.f3, .int .i64 x.f8.f4, .int .i64 x.f8.f5, .int .i64 x.f8.f6] := by
  obtain ⟨_, _, rfl, rfl, ⟨_, _, rfl, rfl, ⟨_, _, rfl, rfl, ⟨_, _, rfl, rfl, ⟨_, _, rfl, rfl, ⟨_, _, rfl, rfl, ⟨_, _, rfl, rfl, ⟨_, _, rfl, rfl, s8⟩⟩⟩⟩⟩⟩⟩⟩ := h
  obtain rfl := k27_open s8
  exact rfl
theorem k40_openM {w : World} {base : Nat} {ok : Nat → Prop} {x : S40} {cs : List Value} (h : k40.M w base ok x cs) : cs = [.int .i64 x.f0, .int .i64 x.f1, .int .i64 x.f2, .int .i64 x.f3, .int .i64 x.f4, .int .i64 x.f5, .bool x.f6, .int .u64 x.f7, .int .i64 x.f8.f0.f0, .string x.f8.f0.f1, .string x.f8.f0.f2, .string x.f8.f0.f3, .bool x.f8.f0.f4, .int .i64 x.f8.f0.f5, .int .i64 x.f8.f1, .bool x.f8.f2, .int .i64 x.f8.f3, .int .i64 x.f8.f4, .int .i64 x.f8.f5, .int .i64 x.f8.f6] := by
  obtain ⟨_, _, rfl, rfl, ⟨_, _, rfl, rfl, ⟨_, _, rfl, rfl, ⟨_, _, rfl, rfl, ⟨_, _, rfl, rfl, ⟨_, _, rfl, rfl, ⟨_, _, rfl, rfl, ⟨_, _, rfl, rfl, s8⟩⟩⟩⟩⟩⟩⟩⟩ := h
  obtain rfl := k27_openM s8
  exact rfl
theorem k40_mk (w : World) (x : S40)  : k40.K w x [.int .i64 x.f0, .int .i64 x.f1, .int .i64 x.f2, .int .i64 x.f3, .int .i64 x.f4, .int .i64 x.f5, .bool x.f6, .int .u64 x.f7, .int .i64 x.f8.f0.f0, .string x.f8.f0.f1, .string x.f8.f0.f2, .string x.f8.f0.f3, .bool x.f8.f0.f4, .int .i64 x.f8.f0.f5, .int .i64 x.f8.f1, .bool x.f8.f2, .int .i64 x.f8.f3, .int .i64 x.f8.f4, .int .i64 x.f8.f5, .int .i64 x.f8.f6] := ⟨[.int .i64 x.f0], [.int .i64 x.f1, .int .i64 x.f2, .int .i64 x.f3, .int .i64 x.f4, .int .i64 x.f5, .bool x.f6, .int .u64 x.f7, .int .i64 x.f8.f0.f0, .string x.f8.f0.f1, .string x.f8.f0.f2, .string x.f8.f0.f3, .bool x.f8.f0.f4, .int .i64 x.f8.f0.f5, .int .i64 x.f8.f1, .bool x.f8.f2, .int .i64 x.f8.f3, .int .i64 x.f8.f4, .int .i64 x.f8.f5, .int .i64 x.f8.f6], rfl, rfl, ⟨[.int .i64 x.f1], [.int .i64 x.f2, .int .i64 x.f3, .int .i64 x.f4, .int .i64 x.f5, .bool x.f6, .int .u64 x.f7, .int .i64 x.f8.f0.f0, .string x.f8.f0.f1, .string x.f8.f0.f2, .string x.f8.f0.f3, .bool x.f8.f0.f4, .int .i64 x.f8.f0.f5, .int .i64 x.f8.f1, .bool x.f8.f2, .int .i64 x.f8.f3, .int .i64 x.f8.f4, .int .i64 x.f8.f5, .int .i64 x.f8.f6], rfl, rfl, ⟨[.int .i64 x.f2], [.int .i64 x.f3, .int .i64 x.f4, .int .i64 x.f5, .bool x.f6, .int .u64 x.f7, .int .i64 x.f8.f0.f0, .string x.f8.f0.f1, .string x.f8.f0.f2, .string x.f8.f0.f3, .bool x.f8.f0.f4, .int .i64 x.f8.f0.f5, .int .i64 x.f8.f1, .bool x.f8.f2, .int .i64 x.f8.f3, .int .i64 x.f8.f4, .int .i64 x.f8.f5, .int .i64 x.f8.f6], rfl, rfl, ⟨[.int .i64 x.f3], [.int .i64 x.f4, .int .i64 x.f5, .bool x.f6, .int .u64 x.f7, .int .i64 x.f8.f0.f0, .string x.f8.f0.f1, .string x.f8.f0.f2, .string x.f8.f0.f3, .bool x.f8.f0.f4, .int .i64 x.f8.f0.f5, .int .i64 x.f8.f1, .bool x.f8.f2, .int .i64 x.f8.f3, .int .i64 x.f8.f4, .int .i64 x.f8.f5, .int .i64 x.f8.f6], rfl, rfl, ⟨[.int .i64 x.f4], [.int .i64 x.f5, .bool x.f6, .int .u64 x.f7, .int .i64 x.f8.f0.f0, .string x.f8.f0.f1, .string x.f8.f0.f2, .string x.f8.f0.f3, .bool x.f8.f0.f4, .int .i64 x.f8.f0.f5, .int .i64 x.f8.f1, .bool x.f8.f2, .int .i64 x.f8.f3, .int .i64 x.f8.f4, .int .i64 x.f8.f5, .int .i64 x.f8.f6], rfl, rfl, ⟨[.int .i64 x.f5], [.bool x.f6, .int .u64 x.f7, .int .i64 x.f8.f0.f0, .string x.f8.f0.f1, .string x.f8.f0.f2, .string x.f8.f0.f3, .bool x.f8.f0.f4, .int .i64 x.f8.f0.f5, .int .i64 x.f8.f1, .bool x.f8.f2, .int .i64 x.f8.f3, .int .i64 x.f8.f4, .int .i64 x.f8.f5, .int .i64 x.f8.f6], rfl, rfl, ⟨[.bool x.f6], [.int .u64 x.f7, .int .i64 x.f8.f0.f0, .string x.f8.f0.f1, .string x.f8.f0.f2, .string x.f8.f0.f3, .bool x.f8.f0.f4, .int .i64 x.f8.f0.f5, .int .i64 x.f8.f1, .bool x.f8.f2, .int .i64 x.f8.f3, .int .i64 x.f8.f4, .int .i64 x.f8.f5, .int .i64 x.f8.f6], rfl, rfl, ⟨[.int .u64 x.f7], [.int .i64 x.f8.f0.f0, .string x.f8.f0.f1, .string x.f8.f0.f2, .string x.f8.f0.f3, .bool x.f8.f0.f4, .int .i64 x.f8.f0.f5, .int .i64 x.f8.f1, .bool x.f8.f2, .int .i64 x.f8.f3, .int .i64 x.f8.f4, .int .i64 x.f8.f5, .int .i64 x.f8.f6], rfl, rfl, (k27_mk w x.f8 )⟩⟩⟩⟩⟩⟩⟩⟩
theorem k40_mkM (w : World) (base : Nat) (ok : Nat → Prop) (x : S40)  : k40.M w base ok x [.int .i64 x.f0, .int .i64 x.f1, .int .i64 x.f2, .int .i64 x.f3, .int .i64 x.f4, .int .i64 x.f5, .bool x.f6, .int .u64 x.f7, .int .i64 x.f8.f0.f0, .string x.f8.f0.f1, .string x.f8.f0.f2, .string x.f8.f0.f3, .bool x.f8.f0.f4, .int .i64 x.f8.f0.f5, .int .i64 x.f8.f1, .bool x.f8.f2, .int .i64 x.f8.f3, .int .i64 x.f8.f4, .int .i64 x.f8.f5, .int .i64 x.f8.f6] := ⟨[.int .i64 x.f0], [.int .i64 x.f1, .int .i64 x.f2, .int .i64 x.f3, .int .i64 x.f4, .int .i64 x.f5, .bool x.f6, .int .u64 x.f7, .int .i64 x.f8.f0.f0, .string x.f8.f0.f1, .string x.f8.f0.f2, .string x.f8.f0.f3, .bool x.f8.f0.f4, .int .i64 x.f8.f0.f5, .int .i64 x.f8.f1, .bool x.f8.f2, .int .i64 x.f8.f3, .int .i64 x.f8.f4, .int .i64 x.f8.f5, .int .i64 x.f8.f6], rfl, rfl, ⟨[.int .i64 x.f1], [.int .i64 x.f2, .int .i64 x.f3, .int .i64 x.f4, .int .i64 x.f5, .bool x.f6, .int .u64 x.f7, .int .i64 x.f8.f0.f0, .string x.f8.f0.f1, .string x.f8.f0.f2, .string x.f8.f0.f3, .bool x.f8.f0.f4, .int .i64 x.f8.f0.f5, .int .i64 x.f8.f1, .bool x.f8.f2, .int .i64 x.f8.f3, .int .i64 x.f8.f4, .int .i64 x.f8.f5, .int .i64 x.f8.f6], rfl, rfl, ⟨[.int .i64 x.f2], [.int .i64 x.f3, .int .i64 x.f4, .int .i64 x.f5, .bool x.f6, .int .u64 x.f7, .int .i64 x.f8.f0.f0, .string x.f8.f0.f1, .string x.f8.f0.f2, .string x.f8.f0.f3, .bool x.f8.f0.f4, .int .i64 x.f8.f0.f5, .int .i64 x.f8.f1, .bool x.f8.f2, .int .i64 x.f8.f3, .int .i64 x.f8.f4, .int .i64 x.f8.f5, .int .i64 x.f8.f6], rfl, rfl, ⟨[.int .i64 x.f3], [.int .i64 x.f4, .int .i64 x.f5, .bool x.f6, .int .u64 x.f7, .int .i64 x.f8.f0.f0, .string x.f8.f0.f1, .string x.f8.f0.f2, .string x.f8.f0.f3, .bool x.f8.f0.f4, .int .i64 x.f8.f0.f5, .int .i64 x.f8.f1, .bool x.f8.f2, .int .i64 x.f8.f3, .int .i64 x.f8.f4, .int .i64 x.f8.f5, .int .i64 x.f8.f6], rfl, rfl, ⟨[.int .i64 x.f4], [.int .i64 x.f5, .bool x.f6, .int .u64 x.f7, .int .i64 x.f8.f0.f0, .string x.f8.f0.f1, .string x.f8.f0.f2, .string x.f8.f0.f3, .bool x.f8.f0.f4, .int .i64 x.f8.f0.f5, .int .i64 x.f8.f1, .bool x.f8.f2, .int .i64 x.f8.f3, .int .i64 x.f8.f4, .int .i64 x.f8.f5, .int .i64 x.f8.f6], rfl, rfl, ⟨[.int .i64 x.f5], [.bool x.f6, .int .u64 x.f7, .int .i64 x.f8.f0.f0, .string x.f8.f0.f1, .string x.f8.f0.f2, .string x.f8.f0.f3, .bool x.f8.f0.f4, .int .i64 x.f8.f0.f5, .int .i64 x.f8.f1, .bool x.f8.f2, .int .i64 x.f8.f3, .int .i64 x.f8.f4, .int .i64 x.f8.f5, .int .i64 x.f8.f6], rfl, rfl, ⟨[.bool x.f6], [.int .u64 x.f7, .int .i64 x.f8.f0.f0, .string x.f8.f0.f1, .string x.f8.f0.f2, .string x.f8.f0.f3, .bool x.f8.f0.f4, .int .i64 x.f8.f0.f5, .int .i64 x.f8.f1, .bool x.f8.f2, .int .i64 x.f8.f3, .int .i64 x.f8.f4, .int .i64 x.f8.f5, .int .i64 x.f8.f6], rfl, rfl, ⟨[.int .u64 x.f7], [.int .i64 x.f8.f0.f0, .string x.f8.f0.f1, .string x.f8.f0.f2, .string x.f8.f0.f3, .bool x.f8.f0.f4, .int .i64 x.f8.f0.f5, .int .i64 x.f8.f1, .bool x.f8.f2, .int .i64 x.f8.f3, .int .i64 x.f8.f4, .int .i64 x.f8.f5, .int .i64 x.f8.f6], rfl, rfl, (k27_mkM w base ok x.f8 )⟩⟩⟩⟩⟩⟩⟩⟩
def rd_T40 (xs : List S40) (i : Int) : S40 := xs.getD i.toNat z40
theorem at_T40 {w : World} {A : Option Addr} {n : Nat} {xs : List S40} (h : Kd.C k40 w A n xs) (i : Int) (h0 : 0 ≤ i) (h1 : i < n) : ∃ ad , A = some ad ∧ w.cell? (ad.add (i.toNat * 20)) = some (.int .i64 (rd_T40 xs i).f0) ∧ w.cell? ⟨(ad.add (i.toNat * 20)).block, (ad.add (i.toNat * 20)).off + 1, none⟩ = some (.int .i64 (rd_T40 xs i).f1) ∧ w.cell? ⟨(ad.add (i.toNat * 20)).block, (ad.add (i.toNat * 20)).off + 2, none⟩ = some (.int .i64 (rd_T40 xs i).f2) ∧ w.cell? ⟨(ad.add (i.toNat * 20)).block, (ad.add (i.toNat * 20)).off + 3, none⟩ = some (.int .i64 (rd_T40 xs i).f3) ∧ w.cell? ⟨(ad.add (i.toNat * 20)).block, (ad.add (i.toNat * 20)).off + 4, none⟩ = some (.int .i64 (rd_T40 xs i).f4) ∧ w.cell? ⟨(ad.add (i.toNat * 20)).block, (ad.add (i.toNat * 20)).off + 5, none⟩ = some (.int .i64 (rd_T40 xs i).f5) ∧ w.cell? ⟨(ad.add (i.toNat * 20)).block, (ad.add (i.toNat * 20)).off + 6, none⟩ = some (.bool (rd_T40 xs i).f6) ∧ w.cell? ⟨(ad.add (i.toNat * 20)).block, (ad.add (i.toNat * 20)).off + 7, none⟩ = some (.int .u64 (rd_T40 xs i).f7) ∧ w.cell? ⟨(ad.add (i.toNat * 20)).block, (ad.add (i.toNat * 20)).off + 8, none⟩ = some (.int .i64 (rd_T40 xs i).f8.f0.f0) ∧ w.cell? ⟨(ad.add (i.toNat * 20)).block, (ad.add (i.toNat * 20)).off + 9, none⟩ = some (.string (rd_T40 xs i).f8.f0.f1) ∧ w.cell? ⟨(ad.add (i.toNat * 20)).block, (ad.add (i.toNat * 20)).off + 10, none⟩ = some (.string (rd_T40 xs i).f8.f0.f2) ∧ w.cell? ⟨(ad.add (i.toNat * 20)).block, (ad.add (i.toNat * 20)).off + 11, none⟩ = some (.string (rd_T40 xs i).f8.f0.f3) ∧ w.cell? ⟨(ad.add (i.toNat * 20)).block, (ad.add (i.toNat * 20)).off + 12, none⟩ = some (.bool (rd_T40 xs i).f8.f0.f4) ∧ w.cell? ⟨(ad.add (i.toNat * 20)).block, (ad.add (i.toNat * 20)).off + 13, none⟩ = some (.int .i64 (rd_T40 xs i).f8.f0.f5) ∧ w.cell? ⟨(ad.add (i.toNat * 20)).block, (ad.add (i.toNat * 20)).off + 14, none⟩ = some (.int .i64 (rd_T40 xs i).f8.f1) ∧ w.cell? ⟨(ad.add (i.toNat * 20)).block, (ad.add (i.toNat * 20)).off + 15, none⟩ = some (.bool (rd_T40 xs i).f8.f2) ∧ w.cell? ⟨(ad.add (i.toNat * 20)).block, (ad.add (i.toNat * 20)).off + 16, none⟩ = some (.int .i64 (rd_T40 xs i).f8.f3) ∧ w.cell? ⟨(ad.add (i.toNat * 20)).block, (ad.add (i.toNat * 20)).off + 17, none⟩ = some (.int .i64 (rd_T40 xs i).f8.f4) ∧ w.cell? ⟨(ad.add (i.toNat * 20)).block, (ad.add (i.toNat * 20)).off + 18, none⟩ = some (.int .i64 (rd_T40 xs i).f8.f5) ∧ w.cell? ⟨(ad.add (i.toNat * 20)).block, (ad.add (i.toNat * 20)).off + 19, none⟩ = some (.int .i64 (rd_T40 xs i).f8.f6) := by
  obtain ⟨ad, c, e, _, hK, hc0⟩ := Kd.C_get h z40 i h0 h1
  have hc : ∀ j u, c[j]? = some u → w.cell? (ad.add (i.toNat * 20 + j)) = some u := hc0
  obtain rfl := k40_open hK
  exact ⟨ad, e, hc 0 _ rfl, by rw [← add_field _ _ 1 (by omega)]; exact hc 1 _ rfl, by rw [← add_field _ _ 2 (by omega)]; exact hc 2 _ rfl, by rw [← add_field _ _ 3 (by omega)]; exact hc 3 _ rfl, by rw [← add_field _ _ 4 (by omega)]; exact hc 4 _ rfl, by rw [← add_field _ _ 5 (by omega)]; exact hc 5 _ rfl, by rw [← add_field _ _ 6 (by omega)]; exact hc 6 _ rfl, by rw [← add_field _ _ 7 (by omega)]; exact hc 7 _ rfl, by rw [← add_field _ _ 8 (by omega)]; exact hc 8 _ rfl, by rw [← add_field _ _ 9 (by omega)]; exact hc 9 _ rfl, by rw [← add_field _ _ 10 (by omega)]; exact hc 10 _ rfl, by rw [← add_field _ _ 11 (by omega)]; exact hc 11 _ rfl, by rw [← add_field _ _ 12 (by omega)]; exact hc 12 _ rfl, by rw [← add_field _ _ 13 (by omega)]; exact hc 13 _ rfl, by rw [← add_field _ _ 14 (by omega)]; exact hc 14 _ rfl, by rw [← add_field _ _ 15 (by omega)]; exact hc 15 _ rfl, by rw [← add_field _ _ 16 (by omega)]; exact hc 16 _ rfl, by rw [← add_field _ _ 17 (by omega)]; exact hc 17 _ rfl, by rw [← add_field _ _ 18 (by omega)]; exact hc 18 _ rfl, by rw [← add_field _ _ 19 (by omega)]; exact hc 19 _ rfl⟩

end Go.Proofs.YtkmnpnbfeiobiaaDoor.QSa
