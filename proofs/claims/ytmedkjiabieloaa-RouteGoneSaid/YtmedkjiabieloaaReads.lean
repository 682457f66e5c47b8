/- Written by a program of this session (wip/tools/gen_read.py): what the reading of a struct that came in tells of its cells. -/
import Derived.Test.YtmedkjiabieloaaProg
import Derived.WalkKit
import Derived.ProofKit
import Derived.ChangeArms
import Derived.SizedLaws
set_option linter.unusedVariables false
set_option linter.unusedSimpArgs false
namespace Go.Proofs.Ytmedkjiabieloaa.Reads
open Go.RowKit
theorem sl_form {H : Type} {enc : TypeId × Value → H} {P : Program} {w : World} {base : Nat} {spare : Nat → Bool} {held : Bool} {fuel : Nat} {t e : TypeId} {v : Value} {y : DataW H × List MemPlace}
    (ht : P.underlying t = some (.slice e)) (h : DataW.trod enc P w base spare held fuel t [v] = some y) : ∃ a n c, v = .slice a n c := by
  rcases DataW.trod_slice ht h with ⟨hc, _⟩ | ⟨a, n, c, _, _, _, _, hc, _⟩
  · simp only [List.cons.injEq, and_true] at hc; exact ⟨_, _, _, hc⟩
  · simp only [List.cons.injEq, and_true] at hc; exact ⟨_, _, _, hc⟩
theorem rd26 {H : Type} {enc : TypeId × Value → H} {w : World} {base : Nat} {spare : Nat → Bool} {held : Bool} {fuel : Nat} {cs : List Value} {d : DataW H} {ps : List MemPlace}
    (h : DataW.trod enc Try.prog w base spare held fuel 26 cs = some (d, ps)) :
    ∃ (x0 : ByteArray) (x1 : Int), cs = [.string x0, .int .i64 x1] ∧ (Lit.int .i64 x1).wf = true ∧ (∀ B, (∀ n ∈ d.weights Try.prog 26, n ≤ B) → x0.size ≤ B) := by
  obtain ⟨xs, n, _, hx, hl, hlen, hf⟩ := DataW.trod_struct Try.underlying26 h
  simp only [Prod.mk.injEq] at hx
  obtain ⟨hd, _⟩ := hx
  match xs, hlen with
  | [y0, y1], _ =>
  have hC : Try.prog.cellsOf 26 = 2 := by kernel_rfl
  rw [hC] at hl
  match cs, hl with
  | [u0, u1], _ =>
  have g0 : DataW.trod enc Try.prog w base spare held n 9 [u0] = some (y0.1, y0.2) := by
    have hc : Try.prog.cellsOf 9 = 1 := by kernel_rfl
    have z := hf 0 _ rfl
    simpa [hc] using z
  obtain ⟨z0, e0, v0, _⟩ := DataW.trod_string Try.underlying9 g0
  simp only [List.cons.injEq, and_true] at e0
  subst e0
  simp only [Prod.mk.injEq] at v0
  have g1 : DataW.trod enc Try.prog w base spare held n 3 [u1] = some (y1.1, y1.2) := by
    have hc : Try.prog.cellsOf 3 = 1 := by kernel_rfl
    have z := hf 1 _ rfl
    simpa [hc] using z
  obtain ⟨z1, e1, _, w1⟩ := DataW.trod_int Try.underlying3 g1
  simp only [List.cons.injEq, and_true] at e1
  subst e1
  have hw : ∀ B, (∀ n ∈ d.weights Try.prog 26, n ≤ B) → (∀ n ∈ y0.1.weights Try.prog 9, n ≤ B) ∧ (∀ n ∈ y1.1.weights Try.prog 3, n ≤ B) := by
    intro B hB
    rw [hd] at hB
    simp only [DataW.weights, Try.underlying26, List.map_cons, List.map_nil, DataW.weightsEach, List.mem_append, List.append_nil] at hB
    refine ⟨fun n hn => hB n (by simp [hn]), fun n hn => hB n (by simp [hn])⟩
  exact ⟨z0, z1, rfl, w1, fun B hB => by have q := (hw B hB).1; rw [v0.1] at q; have q2 := q _ (List.mem_singleton.mpr rfl); rwa [Array.length_toList] at q2⟩
theorem rd28 {H : Type} {enc : TypeId × Value → H} {w : World} {base : Nat} {spare : Nat → Bool} {held : Bool} {fuel : Nat} {cs : List Value} {d : DataW H} {ps : List MemPlace}
    (h : DataW.trod enc Try.prog w base spare held fuel 28 cs = some (d, ps)) :
    ∃ (x0 : ByteArray) (x1 : Int) (x2 : ByteArray) (x3 : Int), cs = [.string x0, .int .i64 x1, .string x2, .int .i64 x3] ∧ (Lit.int .i64 x1).wf = true ∧ (Lit.int .i64 x3).wf = true ∧ (∀ B, (∀ n ∈ d.weights Try.prog 28, n ≤ B) → x0.size ≤ B ∧ x2.size ≤ B) := by
  obtain ⟨xs, n, _, hx, hl, hlen, hf⟩ := DataW.trod_struct Try.underlying28 h
  simp only [Prod.mk.injEq] at hx
  obtain ⟨hd, _⟩ := hx
  match xs, hlen with
  | [y0, y1, y2], _ =>
  have hC : Try.prog.cellsOf 28 = 4 := by kernel_rfl
  rw [hC] at hl
  match cs, hl with
  | [u0, u1, u2, u3], _ =>
  have g0 : DataW.trod enc Try.prog w base spare held n 26 [u0, u1] = some (y0.1, y0.2) := by
    have hc : Try.prog.cellsOf 26 = 2 := by kernel_rfl
    have z := hf 0 _ rfl
    simpa [hc] using z
  obtain ⟨z0, z1, e0, w0_0, w0_1⟩ := rd26 g0
  simp only [List.cons.injEq, and_true] at e0
  obtain ⟨rfl, rfl⟩ := e0
  have g1 : DataW.trod enc Try.prog w base spare held n 9 [u2] = some (y1.1, y1.2) := by
    have hc : Try.prog.cellsOf 9 = 1 := by kernel_rfl
    have z := hf 1 _ rfl
    simpa [hc] using z
  obtain ⟨z2, e1, v1, _⟩ := DataW.trod_string Try.underlying9 g1
  simp only [List.cons.injEq, and_true] at e1
  subst e1
  simp only [Prod.mk.injEq] at v1
  have g2 : DataW.trod enc Try.prog w base spare held n 3 [u3] = some (y2.1, y2.2) := by
    have hc : Try.prog.cellsOf 3 = 1 := by kernel_rfl
    have z := hf 2 _ rfl
    simpa [hc] using z
  obtain ⟨z3, e2, _, w2⟩ := DataW.trod_int Try.underlying3 g2
  simp only [List.cons.injEq, and_true] at e2
  subst e2
  have hw : ∀ B, (∀ n ∈ d.weights Try.prog 28, n ≤ B) → (∀ n ∈ y0.1.weights Try.prog 26, n ≤ B) ∧ (∀ n ∈ y1.1.weights Try.prog 9, n ≤ B) ∧ (∀ n ∈ y2.1.weights Try.prog 3, n ≤ B) := by
    intro B hB
    rw [hd] at hB
    simp only [DataW.weights, Try.underlying28, List.map_cons, List.map_nil, DataW.weightsEach, List.mem_append, List.append_nil] at hB
    refine ⟨fun n hn => hB n (by simp [hn]), fun n hn => hB n (by simp [hn]), fun n hn => hB n (by simp [hn])⟩
  exact ⟨z0, z1, z2, z3, rfl, w0_0, w2, fun B hB => ⟨(w0_1 B ((hw B hB).1)), by have q := (hw B hB).2.1; rw [v1.1] at q; have q2 := q _ (List.mem_singleton.mpr rfl); rwa [Array.length_toList] at q2⟩⟩
theorem rd48 {H : Type} {enc : TypeId × Value → H} {w : World} {base : Nat} {spare : Nat → Bool} {held : Bool} {fuel : Nat} {cs : List Value} {d : DataW H} {ps : List MemPlace}
    (h : DataW.trod enc Try.prog w base spare held fuel 48 cs = some (d, ps)) :
    ∃ (x0 : Int) (x1 : ByteArray) (x2 : Int) (x3 : ByteArray) (x4 : Int) (x5 : ByteArray), cs = [.int .i64 x0, .string x1, .int .i64 x2, .string x3, .int .i64 x4, .string x5] ∧ (Lit.int .i64 x0).wf = true ∧ (Lit.int .i64 x2).wf = true ∧ (Lit.int .i64 x4).wf = true ∧ (∀ B, (∀ n ∈ d.weights Try.prog 48, n ≤ B) → x1.size ≤ B ∧ x3.size ≤ B ∧ x5.size ≤ B) := by
  obtain ⟨xs, n, _, hx, hl, hlen, hf⟩ := DataW.trod_struct Try.underlying48 h
  simp only [Prod.mk.injEq] at hx
  obtain ⟨hd, _⟩ := hx
  match xs, hlen with
  | [y0, y1, y2], _ =>
  have hC : Try.prog.cellsOf 48 = 6 := by kernel_rfl
  rw [hC] at hl
  match cs, hl with
  | [u0, u1, u2, u3, u4, u5], _ =>
  have g0 : DataW.trod enc Try.prog w base spare held n 3 [u0] = some (y0.1, y0.2) := by
    have hc : Try.prog.cellsOf 3 = 1 := by kernel_rfl
    have z := hf 0 _ rfl
    simpa [hc] using z
  obtain ⟨z0, e0, _, w0⟩ := DataW.trod_int Try.underlying3 g0
  simp only [List.cons.injEq, and_true] at e0
  subst e0
  have g1 : DataW.trod enc Try.prog w base spare held n 28 [u1, u2, u3, u4] = some (y1.1, y1.2) := by
    have hc : Try.prog.cellsOf 28 = 4 := by kernel_rfl
    have z := hf 1 _ rfl
    simpa [hc] using z
  obtain ⟨z1, z2, z3, z4, e1, w1_0, w1_1, w1_2⟩ := rd28 g1
  simp only [List.cons.injEq, and_true] at e1
  obtain ⟨rfl, rfl, rfl, rfl⟩ := e1
  have g2 : DataW.trod enc Try.prog w base spare held n 9 [u5] = some (y2.1, y2.2) := by
    have hc : Try.prog.cellsOf 9 = 1 := by kernel_rfl
    have z := hf 2 _ rfl
    simpa [hc] using z
  obtain ⟨z5, e2, v2, _⟩ := DataW.trod_string Try.underlying9 g2
  simp only [List.cons.injEq, and_true] at e2
  subst e2
  simp only [Prod.mk.injEq] at v2
  have hw : ∀ B, (∀ n ∈ d.weights Try.prog 48, n ≤ B) → (∀ n ∈ y0.1.weights Try.prog 3, n ≤ B) ∧ (∀ n ∈ y1.1.weights Try.prog 28, n ≤ B) ∧ (∀ n ∈ y2.1.weights Try.prog 9, n ≤ B) := by
    intro B hB
    rw [hd] at hB
    simp only [DataW.weights, Try.underlying48, List.map_cons, List.map_nil, DataW.weightsEach, List.mem_append, List.append_nil] at hB
    refine ⟨fun n hn => hB n (by simp [hn]), fun n hn => hB n (by simp [hn]), fun n hn => hB n (by simp [hn])⟩
  exact ⟨z0, z1, z2, z3, z4, z5, rfl, w0, w1_0, w1_1, fun B hB => ⟨(w1_2 B ((hw B hB).2.1)).1, (w1_2 B ((hw B hB).2.1)).2, by have q := (hw B hB).2.2; rw [v2.1] at q; have q2 := q _ (List.mem_singleton.mpr rfl); rwa [Array.length_toList] at q2⟩⟩
end Go.Proofs.Ytmedkjiabieloaa.Reads
