/- Cells of a block stored one behind the other. -/
import Derived.Test.YtdpfopeofeofcaaWWords
namespace Go.Proofs.Ytdpfopeofeofcaa.Cells
open Go.RowKit Go.Proofs.YtdpfopeofeofcaaW.PrintWords
def setAll (w : World) (q : Nat) : Nat → List Value → World
  | _, [] => w
  | i, v :: l => setAll (w.setCell ⟨q, i, none⟩ v) q (i + 1) l
def setA (cs : Array Value) : Nat → List Value → Array Value
  | _, [] => cs
  | i, v :: l => setA (cs.setIfInBounds i v) (i + 1) l
theorem setAll_far {g q : Nat} (h : g ≠ q) : ∀ (l : List Value) (i : Nat) (w : World), (setAll w q i l).heap[g]? = w.heap[g]?
  | [], _, _ => rfl
  | v :: l, i, w => by rw [setAll, setAll_far h l]; exact Below.heap_setCell w _ v g h
theorem setAll_blk {q : Nat} {t : TypeId} : ∀ (l : List Value) (i : Nat) (w : World) (cs : Array Value), w.heap[q]? = some (.cells cs t (0, 0)) → (setAll w q i l).heap[q]? = some (.cells (setA cs i l) t (0, 0))
  | [], _, _, _, h => h
  | v :: l, i, w, cs, h => by rw [setAll, setA]; exact setAll_blk l _ _ _ (blk_set h i v)
theorem setAll_below {B q : Nat} {w0 : World} (hq : B ≤ q) : ∀ (l : List Value) (i : Nat) (w : World), Below B w0 w → Below B w0 (setAll w q i l)
  | [], _, _, h => h
  | v :: l, i, w, h => by rw [setAll]; exact setAll_below hq l _ _ (Below.setCell h hq v)
theorem setAll_R {α : Type} {d : Kd α} {e : TypeId} {base q : Nat} {ok : Nat → Prop} {v : Value} {xs : List α} {t : TypeId} (ht : ∀ k, k ∈ e :: d.E → k ≠ t) : ∀ (l : List Value) (i : Nat) (w : World) (cs : Array Value), w.heap[q]? = some (.cells cs t (0, 0)) → d.R e w base ok v xs → d.R e (setAll w q i l) base ok v xs
  | [], _, _, _, _, h => h
  | u :: l, i, w, cs, hb, h => by rw [setAll]; exact setAll_R ht l _ _ _ (blk_set hb i u) (Kd.R_set h hb ht i u)
theorem setAll_size (q : Nat) : ∀ (l : List Value) (i : Nat) (w : World), (setAll w q i l).heap.size = w.heap.size
  | [], _, _ => rfl
  | v :: l, i, w => by rw [setAll, setAll_size q l]; simp [World.setCell]
theorem stored2 {w : World} {q : Nat} {t : TypeId} {z0 z1 v0 v1 : Value} (h : w.heap[q]? = some (.cells #[z0, z1] t (0, 0))) : (setAll w q 0 [v0, v1]).heap[q]? = some (.cells #[v0, v1] t (0, 0)) := by
  have := setAll_blk [v0, v1] 0 w _ h
  simpa [setA] using this
theorem stored3 {w : World} {q : Nat} {t : TypeId} {z0 z1 z2 v0 v1 v2 : Value} (h : w.heap[q]? = some (.cells #[z0, z1, z2] t (0, 0))) : (setAll w q 0 [v0, v1, v2]).heap[q]? = some (.cells #[v0, v1, v2] t (0, 0)) := by
  have := setAll_blk [v0, v1, v2] 0 w _ h
  simpa [setA] using this
theorem stored4 {w : World} {q : Nat} {t : TypeId} {z0 z1 z2 z3 v0 v1 v2 v3 : Value} (h : w.heap[q]? = some (.cells #[z0, z1, z2, z3] t (0, 0))) : (setAll w q 0 [v0, v1, v2, v3]).heap[q]? = some (.cells #[v0, v1, v2, v3] t (0, 0)) := by
  have := setAll_blk [v0, v1, v2, v3] 0 w _ h
  simpa [setA] using this
theorem stored5 {w : World} {q : Nat} {t : TypeId} {z0 z1 z2 z3 z4 v0 v1 v2 v3 v4 : Value} (h : w.heap[q]? = some (.cells #[z0, z1, z2, z3, z4] t (0, 0))) : (setAll w q 0 [v0, v1, v2, v3, v4]).heap[q]? = some (.cells #[v0, v1, v2, v3, v4] t (0, 0)) := by
  have := setAll_blk [v0, v1, v2, v3, v4] 0 w _ h
  simpa [setA] using this
theorem stored6 {w : World} {q : Nat} {t : TypeId} {z0 z1 z2 z3 z4 z5 v0 v1 v2 v3 v4 v5 : Value} (h : w.heap[q]? = some (.cells #[z0, z1, z2, z3, z4, z5] t (0, 0))) : (setAll w q 0 [v0, v1, v2, v3, v4, v5]).heap[q]? = some (.cells #[v0, v1, v2, v3, v4, v5] t (0, 0)) := by
  have := setAll_blk [v0, v1, v2, v3, v4, v5] 0 w _ h
  simpa [setA] using this
theorem stored8 {w : World} {q : Nat} {t : TypeId} {z0 z1 z2 z3 z4 z5 z6 z7 v0 v1 v2 v3 v4 v5 v6 v7 : Value} (h : w.heap[q]? = some (.cells #[z0, z1, z2, z3, z4, z5, z6, z7] t (0, 0))) : (setAll w q 0 [v0, v1, v2, v3, v4, v5, v6, v7]).heap[q]? = some (.cells #[v0, v1, v2, v3, v4, v5, v6, v7] t (0, 0)) := by
  have := setAll_blk [v0, v1, v2, v3, v4, v5, v6, v7] 0 w _ h
  simpa [setA] using this
/-- What lies below stays: a kept reading. -/
theorem setAll_C {α : Type} {d : Kd α} {q n : Nat} {A : Option Addr} {xs : List α} {w0 w : World} (h : d.C w0 A n xs) (hb : Below w0.heap.size w0 w) (hq : w0.heap.size ≤ q) (l : List Value) (i : Nat) : d.C (setAll w q i l) A n xs :=
  Kd.C_below h (setAll_below hq l i w hb)
theorem results_c {P : Program} {fn : Func} {p : Tmp} {ty : TypeId} (h : fn.results = #[.cell p ty]) (tmps : Array Value) (w : World) (g : Nat) (t : TypeId) (cs : Array Value) (fr : Nat × Nat) (d : TypeDesc)
    (hp : tmps.getD p undef = .pointer (some ⟨g, 0, none⟩)) (hg : w.heap[g]? = some (.cells cs t fr))
    (hu : P.underlying ty = some d) (hd : (match d with | .struct _ | .array _ _ => true | _ => false) = true) (hi : (P.info? ty).map (·.size) = some cs.size) :
    (results fn tmps).run P w = .ok (.agg cs) w := by
  have hp' : tmps[p]?.getD undef = .pointer (some ⟨g, 0, none⟩) := by simpa using hp
  simp [results, h, hp', asAddr, run_loadVar_row w g t ty cs fr d hg hu hd hi]
end Go.Proofs.Ytdpfopeofeofcaa.Cells
