/- Written by a program of this session (wip/tools/gen_read.py): what the reading of a struct that came in tells of its cells. -/
import Derived.Test.YticaejoaoblcmaaDoorProg
import Derived.WalkKit
import Derived.ProofKit
import Derived.ChangeArms
import Derived.SizedLaws
set_option linter.unusedVariables false
set_option linter.unusedSimpArgs false
namespace Go.Proofs.YticaejoaoblcmaaDoor.Reads
open Go.RowKit
theorem sl_form {H : Type} {enc : TypeId × Value → H} {P : Program} {w : World} {base : Nat} {spare : Nat → Bool} {held : Bool} {fuel : Nat} {t e : TypeId} {v : Value} {y : DataW H × List MemPlace}
    (ht : P.underlying t = some (.slice e)) (h : DataW.trod enc P w base spare held fuel t [v] = some y) : ∃ a n c, v = .slice a n c := by
  rcases DataW.trod_slice ht h with ⟨hc, _⟩ | ⟨a, n, c, _, _, _, _, hc, _⟩
  · simp only [List.cons.injEq, and_true] at hc; exact ⟨_, _, _, hc⟩
  · simp only [List.cons.injEq, and_true] at hc; exact ⟨_, _, _, hc⟩
theorem rd27 {H : Type} {enc : TypeId × Value → H} {w : World} {base : Nat} {spare : Nat → Bool} {held : Bool} {fuel : Nat} {cs : List Value} {d : DataW H} {ps : List MemPlace}
    (h : DataW.trod enc Tryd.prog w base spare held fuel 27 cs = some (d, ps)) :
    ∃ (x0 : Int) (x1 : Int) (x2 : ByteArray) (x3 : Bool), cs = [.int .i64 x0, .int .i64 x1, .string x2, .bool x3] ∧ (Lit.int .i64 x0).wf = true ∧ (Lit.int .i64 x1).wf = true ∧ (∀ B, (∀ n ∈ d.weights Tryd.prog 27, n ≤ B) → x2.size ≤ B) := by
  obtain ⟨xs, n, _, hx, hl, hlen, hf⟩ := DataW.trod_struct Tryd.underlying27 h
  simp only [Prod.mk.injEq] at hx
  obtain ⟨hd, _⟩ := hx
  match xs, hlen with
  | [y0, y1, y2, y3], _ =>
  have hC : Tryd.prog.cellsOf 27 = 4 := by kernel_rfl
  rw [hC] at hl
  match cs, hl with
  | [u0, u1, u2, u3], _ =>
  have g0 : DataW.trod enc Tryd.prog w base spare held n 3 [u0] = some (y0.1, y0.2) := by
    have hc : Tryd.prog.cellsOf 3 = 1 := by kernel_rfl
    have z := hf 0 _ rfl
    simpa [hc] using z
  obtain ⟨z0, e0, _, w0⟩ := DataW.trod_int Tryd.underlying3 g0
  simp only [List.cons.injEq, and_true] at e0
  subst e0
  have g1 : DataW.trod enc Tryd.prog w base spare held n 3 [u1] = some (y1.1, y1.2) := by
    have hc : Tryd.prog.cellsOf 3 = 1 := by kernel_rfl
    have z := hf 1 _ rfl
    simpa [hc] using z
  obtain ⟨z1, e1, _, w1⟩ := DataW.trod_int Tryd.underlying3 g1
  simp only [List.cons.injEq, and_true] at e1
  subst e1
  have g2 : DataW.trod enc Tryd.prog w base spare held n 9 [u2] = some (y2.1, y2.2) := by
    have hc : Tryd.prog.cellsOf 9 = 1 := by kernel_rfl
    have z := hf 2 _ rfl
    simpa [hc] using z
  obtain ⟨z2, e2, v2, _⟩ := DataW.trod_string Tryd.underlying9 g2
  simp only [List.cons.injEq, and_true] at e2
  subst e2
  simp only [Prod.mk.injEq] at v2
  have g3 : DataW.trod enc Tryd.prog w base spare held n 4 [u3] = some (y3.1, y3.2) := by
    have hc : Tryd.prog.cellsOf 4 = 1 := by kernel_rfl
    have z := hf 3 _ rfl
    simpa [hc] using z
  obtain ⟨z3, e3, _⟩ := DataW.trod_bool Tryd.underlying4 g3
  simp only [List.cons.injEq, and_true] at e3
  subst e3
  have hw : ∀ B, (∀ n ∈ d.weights Tryd.prog 27, n ≤ B) → (∀ n ∈ y0.1.weights Tryd.prog 3, n ≤ B) ∧ (∀ n ∈ y1.1.weights Tryd.prog 3, n ≤ B) ∧ (∀ n ∈ y2.1.weights Tryd.prog 9, n ≤ B) ∧ (∀ n ∈ y3.1.weights Tryd.prog 4, n ≤ B) := by
    intro B hB
    rw [hd] at hB
    simp only [DataW.weights, Tryd.underlying27, List.map_cons, List.map_nil, DataW.weightsEach, List.mem_append, List.append_nil] at hB
    refine ⟨fun n hn => hB n (by simp [hn]), fun n hn => hB n (by simp [hn]), fun n hn => hB n (by simp [hn]), fun n hn => hB n (by simp [hn])⟩
  exact ⟨z0, z1, z2, z3, rfl, w0, w1, fun B hB => by have q := (hw B hB).2.2.1; rw [v2.1] at q; have q2 := q _ (List.mem_singleton.mpr rfl); rwa [Array.length_toList] at q2⟩
end Go.Proofs.YticaejoaoblcmaaDoor.Reads
