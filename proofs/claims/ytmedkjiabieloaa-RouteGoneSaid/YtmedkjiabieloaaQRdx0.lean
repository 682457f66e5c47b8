-- Written by a program of this session (wip/tools/pp.py) out of what the kit's print.py prints over this seat's translation. Not trusted: Lean checks it.
import Derived.Test.YtmedkjiabieloaaProg
import Derived.Test.YtmedkjiabieloaaQStr
import Derived.Below
import Derived.Deep.Draws
import Derived.Deep.AppendLies
import Derived.Maps.AppendAt
import Derived.OwnWalk
import Derived.Laws.BytesArg
import Derived.Laws.MakeOwn
import Derived.Laws.OwnMore
import Derived.Deep.OwnRows
import Derived.Tactics
import Derived.Lib.ConvBytes
import Derived.Laws.Slices
import Derived.WalkKit
import Derived.KernelRfl
import Derived.RowKit3
import Derived.Deep.LoopGhost
import Derived.Deep.QuietTactic
import Derived.BigQuiet
import Derived.WideLaws
import Derived.Deep.DeepCutAuto
import Derived.Deep.CutBlock
import Derived.Deep.RegionHeld3
import Derived.Laws.Rows
import Derived.Lib.AppendStr
import Derived.ArgAppend
import Derived.Laws.IdiomCopy
import Derived.OrdersHeld
import Derived.Laws.BitsLemmas
import Derived.RowKit
import Derived.Test.YtmedkjiabieloaaWWords
import Derived.Test.YtmedkjiabieloaaWLast
import Derived.Test.YtmedkjiabieloaaWTab
import Derived.Test.YtmedkjiabieloaaWFour
import Derived.Test.YtmedkjiabieloaaWQPut
import Derived.Test.YtmedkjiabieloaaWApart
import Derived.Test.YtmedkjiabieloaaWArr
import Derived.Test.YtmedkjiabieloaaWZeros
import Derived.Test.YtmedkjiabieloaaWFoot
import Derived.Test.YtmedkjiabieloaaWKept
import Derived.Test.YtmedkjiabieloaaWShare
import Derived.Test.YtmedkjiabieloaaWN
import Derived.Test.YtmedkjiabieloaaWFootNe
import Derived.Test.YtmedkjiabieloaaWAt
import Derived.Test.YtmedkjiabieloaaWEqStruct
import Derived.Test.YtmedkjiabieloaaWRepsOne
import Derived.Test.YtmedkjiabieloaaWInv
import Derived.Test.YtmedkjiabieloaaWInvWords
import Derived.Test.YtmedkjiabieloaaWGuard
import Derived.Test.YtmedkjiabieloaaWNEv
import Derived.Test.YtmedkjiabieloaaWMore
namespace Go.Proofs.Ytmedkjiabieloaa.QRd
open Go.RowKit Go.Proofs.YtmedkjiabieloaaW.PrintWords Go.Proofs.YtmedkjiabieloaaW.PrintLast Go.Proofs.YtmedkjiabieloaaW.PrintMore
attribute [local go_sem] max2_int min2_int max_two min_two max_three min_three max_four min_four   -- for this text's walks alone
set_option linter.unusedVariables false
set_option linter.unusedSimpArgs false



def errW : Option Int → Value
  | none => .nilIface
  | some c => .iface 0 (.int .i64 c)
theorem errW_none : errW none = .nilIface := rfl
theorem errW_some (c : Int) : errW (some c) = .iface 0 (.int .i64 c) := rfl

theorem info3 : (Try.prog.info? 3).map (fun i => (i.zero, i.size, i.bytes)) = some (some (.int .i64 0), 1, 8) := by kernel_rfl
-- the values' own types
/-! #### struct type 26 -/
structure S26 where
  f0 : ByteArray
  f1 : Int
def z26 : S26 := ⟨(⟨#[]⟩ : ByteArray), (0 : Int)⟩
def k26 : Kd S26 := Kd.iso (Kd.pair Kd.string (Kd.int .i64)) (fun x : S26 => (x.f0, x.f1))
theorem k26_open {w : World} {x : S26} {cs : List Value} (h : k26.K w x cs) : cs = [.string x.f0, .int .i64 x.f1] := by
  obtain ⟨_, _, rfl, rfl, rfl⟩ := h
  exact rfl
theorem k26_openM {w : World} {base : Nat} {ok : Nat → Prop} {x : S26} {cs : List Value} (h : k26.M w base ok x cs) : cs = [.string x.f0, .int .i64 x.f1] := by
  obtain ⟨_, _, rfl, rfl, rfl⟩ := h
  exact rfl
theorem k26_mk (w : World) (x : S26)  : k26.K w x [.string x.f0, .int .i64 x.f1] := ⟨[.string x.f0], [.int .i64 x.f1], rfl, rfl, rfl⟩
theorem k26_mkM (w : World) (base : Nat) (ok : Nat → Prop) (x : S26)  : k26.M w base ok x [.string x.f0, .int .i64 x.f1] := ⟨[.string x.f0], [.int .i64 x.f1], rfl, rfl, rfl⟩
def rd_T26 (xs : List S26) (i : Int) : S26 := xs.getD i.toNat z26
theorem at_T26 {w : World} {A : Option Addr} {n : Nat} {xs : List S26} (h : Kd.C k26 w A n xs) (i : Int) (h0 : 0 ≤ i) (h1 : i < n) : ∃ ad , A = some ad ∧ w.cell? (ad.add (i.toNat * 2)) = some (.string (rd_T26 xs i).f0) ∧ w.cell? ⟨(ad.add (i.toNat * 2)).block, (ad.add (i.toNat * 2)).off + 1, none⟩ = some (.int .i64 (rd_T26 xs i).f1) := by
  obtain ⟨ad, c, e, _, hK, hc0⟩ := Kd.C_get h z26 i h0 h1
  have hc : ∀ j u, c[j]? = some u → w.cell? (ad.add (i.toNat * 2 + j)) = some u := hc0
  obtain rfl := k26_open hK
  exact ⟨ad, e, hc 0 _ rfl, by rw [← add_field _ _ 1 (by omega)]; exact hc 1 _ rfl⟩

/-! #### struct type 28 -/
structure S28 where
  f0 : S26
  f1 : ByteArray
  f2 : Int
def z28 : S28 := ⟨z26, (⟨#[]⟩ : ByteArray), (0 : Int)⟩
def k28 : Kd S28 := Kd.iso (Kd.pair k26 (Kd.pair Kd.string (Kd.int .i64))) (fun x : S28 => (x.f0, x.f1, x.f2))
theorem k28_open {w : World} {x : S28} {cs : List Value} (h : k28.K w x cs) : cs = [.string x.f0.f0, .int .i64 x.f0.f1, .string x.f1, .int .i64 x.f2] := by
  obtain ⟨_, _, rfl, s0, ⟨_, _, rfl, rfl, rfl⟩⟩ := h
  obtain rfl := k26_open s0
  exact rfl
theorem k28_openM {w : World} {base : Nat} {ok : Nat → Prop} {x : S28} {cs : List Value} (h : k28.M w base ok x cs) : cs = [.string x.f0.f0, .int .i64 x.f0.f1, .string x.f1, .int .i64 x.f2] := by
  obtain ⟨_, _, rfl, s0, ⟨_, _, rfl, rfl, rfl⟩⟩ := h
  obtain rfl := k26_openM s0
  exact rfl
theorem k28_mk (w : World) (x : S28)  : k28.K w x [.string x.f0.f0, .int .i64 x.f0.f1, .string x.f1, .int .i64 x.f2] := ⟨[.string x.f0.f0, .int .i64 x.f0.f1], [.string x.f1, .int .i64 x.f2], rfl, (k26_mk w x.f0 ), ⟨[.string x.f1], [.int .i64 x.f2], rfl, rfl, rfl⟩⟩
theorem k28_mkM (w : World) (base : Nat) (ok : Nat → Prop) (x : S28)  : k28.M w base ok x [.string x.f0.f0, .int .i64 x.f0.f1, .string x.f1, .int .i64 x.f2] := ⟨[.string x.f0.f0, .int .i64 x.f0.f1], [.string x.f1, .int .i64 x.f2], rfl, (k26_mkM w base ok x.f0 ), ⟨[.string x.f1], [.int .i64 x.f2], rfl, rfl, rfl⟩⟩
def rd_T28 (xs : List S28) (i : Int) : S28 := xs.getD i.toNat z28
theorem at_T28 {w : World} {A : Option Addr} {n : Nat} {xs : List S28} (h : Kd.C k28 w A n xs) (i : Int) (h0 : 0 ≤ i) (h1 : i < n) : ∃ ad , A = some ad ∧ w.cell? (ad.add (i.toNat * 4)) = some (.string (rd_T28 xs i).f0.f0) ∧ w.cell? ⟨(ad.add (i.toNat * 4)).block, (ad.add (i.toNat * 4)).off + 1, none⟩ = some (.int .i64 (rd_T28 xs i).f0.f1) ∧ w.cell? ⟨(ad.add (i.toNat * 4)).block, (ad.add (i.toNat * 4)).off + 2, none⟩ = some (.string (rd_T28 xs i).f1) ∧ w.cell? ⟨(ad.add (i.toNat * 4)).block, (ad.add (i.toNat * 4)).off + 3, none⟩ = some (.int .i64 (rd_T28 xs i).f2) := by
  obtain ⟨ad, c, e, _, hK, hc0⟩ := Kd.C_get h z28 i h0 h1
  have hc : ∀ j u, c[j]? = some u → w.cell? (ad.add (i.toNat * 4 + j)) = some u := hc0
  obtain rfl := k28_open hK
  exact ⟨ad, e, hc 0 _ rfl, by rw [← add_field _ _ 1 (by omega)]; exact hc 1 _ rfl, by rw [← add_field _ _ 2 (by omega)]; exact hc 2 _ rfl, by rw [← add_field _ _ 3 (by omega)]; exact hc 3 _ rfl⟩

/-! #### struct type 48 -/
structure S48 where
  f0 : Int
  f1 : S28
  f2 : ByteArray
def z48 : S48 := ⟨(0 : Int), z28, (⟨#[]⟩ : ByteArray)⟩
def k48 : Kd S48 := Kd.iso (Kd.pair (Kd.int .i64) (Kd.pair k28 Kd.string)) (fun x : S48 => (x.f0, x.f1, x.f2))
theorem k48_open {w : World} {x : S48} {cs : List Value} (h : k48.K w x cs) : cs = [.int .i64 x.f0, .string x.f1.f0.f0, .int .i64 x.f1.f0.f1, .string x.f1.f1, .int .i64 x.f1.f2, .string x.f2] := by
  obtain ⟨_, _, rfl, rfl, ⟨_, _, rfl, s1, rfl⟩⟩ := h
  obtain rfl := k28_open s1
  exact rfl
theorem k48_openM {w : World} {base : Nat} {ok : Nat → Prop} {x : S48} {cs : List Value} (h : k48.M w base ok x cs) : cs = [.int .i64 x.f0, .string x.f1.f0.f0, .int .i64 x.f1.f0.f1, .string x.f1.f1, .int .i64 x.f1.f2, .string x.f2] := by
  obtain ⟨_, _, rfl, rfl, ⟨_, _, rfl, s1, rfl⟩⟩ := h
  obtain rfl := k28_openM s1
  exact rfl
theorem k48_mk (w : World) (x : S48)  : k48.K w x [.int .i64 x.f0, .string x.f1.f0.f0, .int .i64 x.f1.f0.f1, .string x.f1.f1, .int .i64 x.f1.f2, .string x.f2] := ⟨[.int .i64 x.f0], [.string x.f1.f0.f0, .int .i64 x.f1.f0.f1, .string x.f1.f1, .int .i64 x.f1.f2, .string x.f2], rfl, rfl, ⟨[.string x.f1.f0.f0, .int .i64 x.f1.f0.f1, .string x.f1.f1, .int .i64 x.f1.f2], [.string x.f2], rfl, (k28_mk w x.f1 ), rfl⟩⟩
theorem k48_mkM (w : World) (base : Nat) (ok : Nat → Prop) (x : S48)  : k48.M w base ok x [.int .i64 x.f0, .string x.f1.f0.f0, .int .i64 x.f1.f0.f1, .string x.f1.f1, .int .i64 x.f1.f2, .string x.f2] := ⟨[.int .i64 x.f0], [.string x.f1.f0.f0, .int .i64 x.f1.f0.f1, .string x.f1.f1, .int .i64 x.f1.f2, .string x.f2], rfl, rfl, ⟨[.string x.f1.f0.f0, .int .i64 x.f1.f0.f1, .string x.f1.f1, .int .i64 x.f1.f2], [.string x.f2], rfl, (k28_mkM w base ok x.f1 ), rfl⟩⟩
def rd_T48 (xs : List S48) (i : Int) : S48 := xs.getD i.toNat z48
theorem at_T48 {w : World} {A : Option Addr} {n : Nat} {xs : List S48} (h : Kd.C k48 w A n xs) (i : Int) (h0 : 0 ≤ i) (h1 : i < n) : ∃ ad , A = some ad ∧ w.cell? (ad.add (i.toNat * 6)) = some (.int .i64 (rd_T48 xs i).f0) ∧ w.cell? ⟨(ad.add (i.toNat * 6)).block, (ad.add (i.toNat * 6)).off + 1, none⟩ = some (.string (rd_T48 xs i).f1.f0.f0) ∧ w.cell? ⟨(ad.add (i.toNat * 6)).block, (ad.add (i.toNat * 6)).off + 2, none⟩ = some (.int .i64 (rd_T48 xs i).f1.f0.f1) ∧ w.cell? ⟨(ad.add (i.toNat * 6)).block, (ad.add (i.toNat * 6)).off + 3, none⟩ = some (.string (rd_T48 xs i).f1.f1) ∧ w.cell? ⟨(ad.add (i.toNat * 6)).block, (ad.add (i.toNat * 6)).off + 4, none⟩ = some (.int .i64 (rd_T48 xs i).f1.f2) ∧ w.cell? ⟨(ad.add (i.toNat * 6)).block, (ad.add (i.toNat * 6)).off + 5, none⟩ = some (.string (rd_T48 xs i).f2) := by
  obtain ⟨ad, c, e, _, hK, hc0⟩ := Kd.C_get h z48 i h0 h1
  have hc : ∀ j u, c[j]? = some u → w.cell? (ad.add (i.toNat * 6 + j)) = some u := hc0
  obtain rfl := k48_open hK
  exact ⟨ad, e, hc 0 _ rfl, by rw [← add_field _ _ 1 (by omega)]; exact hc 1 _ rfl, by rw [← add_field _ _ 2 (by omega)]; exact hc 2 _ rfl, by rw [← add_field _ _ 3 (by omega)]; exact hc 3 _ rfl, by rw [← add_field _ _ 4 (by omega)]; exact hc 4 _ rfl, by rw [← add_field _ _ 5 (by omega)]; exact hc 5 _ rfl⟩

end Go.Proofs.Ytmedkjiabieloaa.QRd
