/- One table in a walk; two routes are one. -/
import Derived.Test.YtmedkjiabieloaaRtZ
namespace Go.Proofs.Ytmedkjiabieloaa.Rt
open Go.RowKit Go.Proofs.YtmedkjiabieloaaW.PrintWords Go.Proofs.YtmedkjiabieloaaW.PrintLast Go.Proofs.YtmedkjiabieloaaW.PrintMore Go.Proofs.Ytmedkjiabieloaa.QRd
open Go.Proofs.Ytmedkjiabieloaa
set_option linter.unusedVariables false
set_option linter.unusedSimpArgs false
/-- A table. -/
structure One (w0 w : World) (q : Nat) (v : Value) (L : List S28) : Prop where
  tab : TabO w w0.heap.size q v L
  good : Good L
  below : Below w0.heap.size w0 w
theorem One.step {w0 w w' : World} {q : Nat} {v : Value} {L : List S28} (h : One w0 w q v L) (hb : Below w.heap.size w w') : One w0 w' q v L := ⟨h.tab.below hb, h.good, h.below.trans (hb.mono h.below.size)⟩
theorem One.turn {w0 w w' : World} {q : Nat} {v v' : Value} {L L' : List S28} (h : One w0 w q v L) (hg : Good L') (ht : TabO w' w0.heap.size q v' L') (hu : Turn w w' q v v') : One w0 w' q v' L' := ⟨ht, hg, hu.below h.below h.tab.low h.tab.base⟩
/-- Are two routes one? -/
def eqE (x y : S28) : Bool := (x.f0.f0.toList == y.f0.f0.toList && (x.f0.f1 == y.f0.f1)) && (x.f1.toList == y.f1.toList && (x.f2 == y.f2))
theorem eqE_iff (x y : S28) : eqE x y = true ↔ x = y := by
  obtain ⟨⟨xa, xb⟩, xv, xp⟩ := x
  obtain ⟨⟨ya, yb⟩, yv, yp⟩ := y
  unfold eqE
  simp only [Bool.and_eq_true, beq_iff_eq]
  constructor
  · rintro ⟨⟨h1, h2⟩, h3, h4⟩
    rw [toList_ext h1, h2, toList_ext h3, h4]
  · intro h
    injection h with h1 h2 h3
    injection h1 with h4 h5
    rw [h2, h3, h4, h5]
    exact ⟨⟨rfl, rfl⟩, rfl, rfl⟩
theorem eqE_true {x y : S28} (h : x = y) : eqE x y = true := (eqE_iff x y).2 h
theorem eqE_false {x y : S28} (h : x ≠ y) : eqE x y = false := by
  cases hh : eqE x y with
  | false => rfl
  | true => exact absurd ((eqE_iff x y).1 hh) h
theorem eqA28' (d : Nat) (w : World) (x0 y0 : ByteArray) (x1 y1 : Int) (x2 y2 : ByteArray) (x3 y3 : Int) :
    (Op.equalIn (d + 3) 28 (.agg #[.string x0, .int .i64 x1, .string x2, .int .i64 x3]) (.agg #[.string y0, .int .i64 y1, .string y2, .int .i64 y3])).run Try.prog w = .ok (eqE ⟨⟨x0, x1⟩, x2, x3⟩ ⟨⟨y0, y1⟩, y2, y3⟩) w := eqA28 d w x0 y0 x1 y1 x2 y2 x3 y3
end Go.Proofs.Ytmedkjiabieloaa.Rt
