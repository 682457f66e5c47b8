/- What the listed variable gives the walks, and that the door's own heap meets the condition. -/
import Derived.Test.YticaejoaoblcmaaDoorRows
import Derived.Test.YticaejoaoblcmaaDoorPmtD
import Derived.ProofKit
import Derived.LaidMore
import Derived.OpenShut
import Derived.Stop.Joined
namespace Go.Proofs.YticaejoaoblcmaaDoor.Pmt
open Go.ChangeShapes Go.WideShapes Go.ChangeAt Go.WideMaps Go.WideElems Go.RowKit
theorem gHeads : Tryd.prog.globalNamed "redoubt/pmtu.heads" = some 0 := by kernel_rfl
theorem tHeads : (Tryd.prog.globals[0]?).map (·.type) = some 54 := by kernel_rfl
abbrev laidL {H : Type} : List (String × DataW H) := [("redoubt/pmtu.heads", Rows.laid_redoubt_pmtu_heads)]
theorem door_met (os : Os) (args : Array Value) : laidMetH Tryd.prog (laidL (H := Unit)) ((World.doorLaid Tryd.prog 400 os).forCall (fun _ _ => 0) ⟨#[], args, []⟩).memory :=
  laidMetH_of_parts3 (fuel := 8) (laidMet_of_run' 8 (by kernel_rfl) (by kernel_rfl)) (by kernel_rfl) (by kernel_rfl)
theorem heads_of_laid {W : World} (h : laidMetH Tryd.prog (laidL (H := Unit)) W) : Heads W := by
  rw [MakeChecks.laidMetH_plain _ _ _ (by kernel_rfl)] at h
  obtain ⟨ps, ⟨g0, t0, cs0, f0, p0, q0, hg0, ht0, hv0, hd0, _, _⟩, _, _⟩ := h
  obtain rfl := Option.some.inj (gHeads.symm.trans hg0)
  obtain rfl := Option.some.inj (tHeads.symm.trans ht0)
  obtain ⟨xs, m1, rfl, hx1, hlen, hn3, hel⟩ := DataW.trod_array Tryd.underlying54 hd0
  have c3 : Tryd.prog.cellsOf 3 = 1 := by kernel_rfl
  have h0 := hel 0 (by decide)
  have h1 := hel 1 (by decide)
  simp only [Rows.laid_redoubt_pmtu_heads, Prod.mk.injEq, DataW.agg.injEq] at hx1
  match xs, hn3, hx1, h0, h1 with
  | [x0, x1], _, hx1, h0, h1 =>
    simp only [List.map_cons, List.map_nil, List.cons.injEq] at hx1
    obtain ⟨k, e1, e2, _⟩ := DataW.trod_int Tryd.underlying3 (show DataW.trod _ Tryd.prog W 0 _ false m1 3 _ = some x0 from h0)
    obtain ⟨k', e1', e2', _⟩ := DataW.trod_int Tryd.underlying3 (show DataW.trod _ Tryd.prog W 0 _ false m1 3 _ = some x1 from h1)
    have hk : k = 20 := by rw [e2] at hx1; simpa using hx1.1.1.symm
    have hk' : k' = 40 := by rw [e2'] at hx1; simpa using hx1.1.2.1.symm
    subst hk
    subst hk'
    have v0 := World.var?_cell hg0 hv0 0
    have v1 := World.var?_cell hg0 hv0 1
    obtain ⟨l1⟩ := cs0
    rw [c3] at e1 e1'
    match l1, e1, e1' with
    | c :: c' :: _, e1, e1' =>
      simp at e1 e1'
      subst e1
      subst e1'
      exact ⟨by simpa using v0, by simpa using v1⟩
end Go.Proofs.YticaejoaoblcmaaDoor.Pmt
