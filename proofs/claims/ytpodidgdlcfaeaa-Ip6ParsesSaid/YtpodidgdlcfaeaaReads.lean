/- Written by a program of this session (wip/tools/gen_read.py): what the reading of a struct that came in tells of its cells. -/
import Derived.Test.YtpodidgdlcfaeaaProg
import Derived.WalkKit
import Derived.ProofKit
import Derived.ChangeArms
import Derived.SizedLaws
set_option linter.unusedVariables false
set_option linter.unusedSimpArgs false
namespace Go.Proofs.Ytpodidgdlcfaeaa.Reads
open Go.RowKit
theorem sl_form {H : Type} {enc : TypeId × Value → H} {P : Program} {w : World} {base : Nat} {spare : Nat → Bool} {held : Bool} {fuel : Nat} {t e : TypeId} {v : Value} {y : DataW H × List MemPlace}
    (ht : P.underlying t = some (.slice e)) (h : DataW.trod enc P w base spare held fuel t [v] = some y) : ∃ a n c, v = .slice a n c := by
  rcases DataW.trod_slice ht h with ⟨hc, _⟩ | ⟨a, n, c, _, _, _, _, hc, _⟩
  · simp only [List.cons.injEq, and_true] at hc; exact ⟨_, _, _, hc⟩
  · simp only [List.cons.injEq, and_true] at hc; exact ⟨_, _, _, hc⟩
theorem rd26 {H : Type} {enc : TypeId × Value → H} {w : World} {base : Nat} {spare : Nat → Bool} {held : Bool} {fuel : Nat} {cs : List Value} {d : DataW H} {ps : List MemPlace}
    (h : DataW.trod enc Try.prog w base spare held fuel 26 cs = some (d, ps)) :
    ∃ (x0 : Int) (x1 : Int) (x2 : Int) (x3 : ByteArray) (x4 : ByteArray) (x5 : Option Addr) (nx5 cx5 : Nat) (x6 : Int) (x7 : Option Addr) (nx7 cx7 : Nat), cs = [.int .i64 x0, .int .i64 x1, .int .i64 x2, .string x3, .string x4, .slice x5 nx5 cx5, .int .i64 x6, .slice x7 nx7 cx7] ∧ (Lit.int .i64 x0).wf = true ∧ (Lit.int .i64 x1).wf = true ∧ (Lit.int .i64 x2).wf = true ∧ (∃ m e q, DataW.trod enc Try.prog w base spare held m 24 [.slice x5 nx5 cx5] = some (e, q) ∧ ∀ B, (∀ n ∈ d.weights Try.prog 26, n ≤ B) → ∀ n ∈ e.weights Try.prog 24, n ≤ B) ∧ (Lit.int .i64 x6).wf = true ∧ (∃ m e q, DataW.trod enc Try.prog w base spare held m 22 [.slice x7 nx7 cx7] = some (e, q) ∧ ∀ B, (∀ n ∈ d.weights Try.prog 26, n ≤ B) → ∀ n ∈ e.weights Try.prog 22, n ≤ B) ∧ (∀ B, (∀ n ∈ d.weights Try.prog 26, n ≤ B) → x3.size ≤ B ∧ x4.size ≤ B) := by
  obtain ⟨xs, n, _, hx, hl, hlen, hf⟩ := DataW.trod_struct Try.underlying26 h
  simp only [Prod.mk.injEq] at hx
  obtain ⟨hd, _⟩ := hx
  match xs, hlen with
  | [y0, y1, y2, y3, y4, y5, y6, y7], _ =>
  have hC : Try.prog.cellsOf 26 = 8 := by kernel_rfl
  rw [hC] at hl
  match cs, hl with
  | [u0, u1, u2, u3, u4, u5, u6, u7], _ =>
  have g0 : DataW.trod enc Try.prog w base spare held n 3 [u0] = some (y0.1, y0.2) := by
    have hc : Try.prog.cellsOf 3 = 1 := by kernel_rfl
    have z := hf 0 _ rfl
    simpa [hc] using z
  obtain ⟨z0, e0, _, w0⟩ := DataW.trod_int Try.underlying3 g0
  simp only [List.cons.injEq, and_true] at e0
  subst e0
  have g1 : DataW.trod enc Try.prog w base spare held n 3 [u1] = some (y1.1, y1.2) := by
    have hc : Try.prog.cellsOf 3 = 1 := by kernel_rfl
    have z := hf 1 _ rfl
    simpa [hc] using z
  obtain ⟨z1, e1, _, w1⟩ := DataW.trod_int Try.underlying3 g1
  simp only [List.cons.injEq, and_true] at e1
  subst e1
  have g2 : DataW.trod enc Try.prog w base spare held n 3 [u2] = some (y2.1, y2.2) := by
    have hc : Try.prog.cellsOf 3 = 1 := by kernel_rfl
    have z := hf 2 _ rfl
    simpa [hc] using z
  obtain ⟨z2, e2, _, w2⟩ := DataW.trod_int Try.underlying3 g2
  simp only [List.cons.injEq, and_true] at e2
  subst e2
  have g3 : DataW.trod enc Try.prog w base spare held n 9 [u3] = some (y3.1, y3.2) := by
    have hc : Try.prog.cellsOf 9 = 1 := by kernel_rfl
    have z := hf 3 _ rfl
    simpa [hc] using z
  obtain ⟨z3, e3, v3, _⟩ := DataW.trod_string Try.underlying9 g3
  simp only [List.cons.injEq, and_true] at e3
  subst e3
  simp only [Prod.mk.injEq] at v3
  have g4 : DataW.trod enc Try.prog w base spare held n 9 [u4] = some (y4.1, y4.2) := by
    have hc : Try.prog.cellsOf 9 = 1 := by kernel_rfl
    have z := hf 4 _ rfl
    simpa [hc] using z
  obtain ⟨z4, e4, v4, _⟩ := DataW.trod_string Try.underlying9 g4
  simp only [List.cons.injEq, and_true] at e4
  subst e4
  simp only [Prod.mk.injEq] at v4
  have g5 : DataW.trod enc Try.prog w base spare held n 24 [u5] = some (y5.1, y5.2) := by
    have hc : Try.prog.cellsOf 24 = 1 := by kernel_rfl
    have z := hf 5 _ rfl
    simpa [hc] using z
  obtain ⟨z5, nz5, cz5, e5⟩ := sl_form Try.underlying24 g5
  subst e5
  have g6 : DataW.trod enc Try.prog w base spare held n 3 [u6] = some (y6.1, y6.2) := by
    have hc : Try.prog.cellsOf 3 = 1 := by kernel_rfl
    have z := hf 6 _ rfl
    simpa [hc] using z
  obtain ⟨z6, e6, _, w6⟩ := DataW.trod_int Try.underlying3 g6
  simp only [List.cons.injEq, and_true] at e6
  subst e6
  have g7 : DataW.trod enc Try.prog w base spare held n 22 [u7] = some (y7.1, y7.2) := by
    have hc : Try.prog.cellsOf 22 = 1 := by kernel_rfl
    have z := hf 7 _ rfl
    simpa [hc] using z
  obtain ⟨z7, nz7, cz7, e7⟩ := sl_form Try.underlying22 g7
  subst e7
  have hw : ∀ B, (∀ n ∈ d.weights Try.prog 26, n ≤ B) → (∀ n ∈ y0.1.weights Try.prog 3, n ≤ B) ∧ (∀ n ∈ y1.1.weights Try.prog 3, n ≤ B) ∧ (∀ n ∈ y2.1.weights Try.prog 3, n ≤ B) ∧ (∀ n ∈ y3.1.weights Try.prog 9, n ≤ B) ∧ (∀ n ∈ y4.1.weights Try.prog 9, n ≤ B) ∧ (∀ n ∈ y5.1.weights Try.prog 24, n ≤ B) ∧ (∀ n ∈ y6.1.weights Try.prog 3, n ≤ B) ∧ (∀ n ∈ y7.1.weights Try.prog 22, n ≤ B) := by
    intro B hB
    rw [hd] at hB
    simp only [DataW.weights, Try.underlying26, List.map_cons, List.map_nil, DataW.weightsEach, List.mem_append, List.append_nil] at hB
    refine ⟨fun n hn => hB n (by simp [hn]), fun n hn => hB n (by simp [hn]), fun n hn => hB n (by simp [hn]), fun n hn => hB n (by simp [hn]), fun n hn => hB n (by simp [hn]), fun n hn => hB n (by simp [hn]), fun n hn => hB n (by simp [hn]), fun n hn => hB n (by simp [hn])⟩
  exact ⟨z0, z1, z2, z3, z4, z5, nz5, cz5, z6, z7, nz7, cz7, rfl, w0, w1, w2, ⟨n, y5.1, y5.2, g5, fun B hB => (hw B hB).2.2.2.2.2.1⟩, w6, ⟨n, y7.1, y7.2, g7, fun B hB => (hw B hB).2.2.2.2.2.2.2⟩, fun B hB => ⟨by have q := (hw B hB).2.2.2.1; rw [v3.1] at q; have q2 := q _ (List.mem_singleton.mpr rfl); rwa [Array.length_toList] at q2, by have q := (hw B hB).2.2.2.2.1; rw [v4.1] at q; have q2 := q _ (List.mem_singleton.mpr rfl); rwa [Array.length_toList] at q2⟩⟩
theorem rd43 {H : Type} {enc : TypeId × Value → H} {w : World} {base : Nat} {spare : Nat → Bool} {held : Bool} {fuel : Nat} {cs : List Value} {d : DataW H} {ps : List MemPlace}
    (h : DataW.trod enc Try.prog w base spare held fuel 43 cs = some (d, ps)) :
    ∃ (x0 : Int) (x1 : ByteArray), cs = [.int .i64 x0, .string x1] ∧ (Lit.int .i64 x0).wf = true ∧ (∀ B, (∀ n ∈ d.weights Try.prog 43, n ≤ B) → x1.size ≤ B) := by
  obtain ⟨xs, n, _, hx, hl, hlen, hf⟩ := DataW.trod_struct Try.underlying43 h
  simp only [Prod.mk.injEq] at hx
  obtain ⟨hd, _⟩ := hx
  match xs, hlen with
  | [y0, y1], _ =>
  have hC : Try.prog.cellsOf 43 = 2 := by kernel_rfl
  rw [hC] at hl
  match cs, hl with
  | [u0, u1], _ =>
  have g0 : DataW.trod enc Try.prog w base spare held n 3 [u0] = some (y0.1, y0.2) := by
    have hc : Try.prog.cellsOf 3 = 1 := by kernel_rfl
    have z := hf 0 _ rfl
    simpa [hc] using z
  obtain ⟨z0, e0, _, w0⟩ := DataW.trod_int Try.underlying3 g0
  simp only [List.cons.injEq, and_true] at e0
  subst e0
  have g1 : DataW.trod enc Try.prog w base spare held n 9 [u1] = some (y1.1, y1.2) := by
    have hc : Try.prog.cellsOf 9 = 1 := by kernel_rfl
    have z := hf 1 _ rfl
    simpa [hc] using z
  obtain ⟨z1, e1, v1, _⟩ := DataW.trod_string Try.underlying9 g1
  simp only [List.cons.injEq, and_true] at e1
  subst e1
  simp only [Prod.mk.injEq] at v1
  have hw : ∀ B, (∀ n ∈ d.weights Try.prog 43, n ≤ B) → (∀ n ∈ y0.1.weights Try.prog 3, n ≤ B) ∧ (∀ n ∈ y1.1.weights Try.prog 9, n ≤ B) := by
    intro B hB
    rw [hd] at hB
    simp only [DataW.weights, Try.underlying43, List.map_cons, List.map_nil, DataW.weightsEach, List.mem_append, List.append_nil] at hB
    refine ⟨fun n hn => hB n (by simp [hn]), fun n hn => hB n (by simp [hn])⟩
  exact ⟨z0, z1, rfl, w0, fun B hB => by have q := (hw B hB).2; rw [v1.1] at q; have q2 := q _ (List.mem_singleton.mpr rfl); rwa [Array.length_toList] at q2⟩
end Go.Proofs.Ytpodidgdlcfaeaa.Reads
