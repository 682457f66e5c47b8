/- Written by a program of this session (wip/tools/gen_read.py): what the reading of a struct that came in tells of its cells. -/
import Derived.Test.YtcohcbfodmoblaaProg
import Derived.WalkKit
import Derived.ProofKit
import Derived.ChangeArms
import Derived.SizedLaws
set_option linter.unusedVariables false
set_option linter.unusedSimpArgs false
namespace Go.Proofs.Ytcohcbfodmoblaa.Reads
open Go.RowKit
theorem sl_form {H : Type} {enc : TypeId × Value → H} {P : Program} {w : World} {base : Nat} {spare : Nat → Bool} {held : Bool} {fuel : Nat} {t e : TypeId} {v : Value} {y : DataW H × List MemPlace}
    (ht : P.underlying t = some (.slice e)) (h : DataW.trod enc P w base spare held fuel t [v] = some y) : ∃ a n c, v = .slice a n c := by
  rcases DataW.trod_slice ht h with ⟨hc, _⟩ | ⟨a, n, c, _, _, _, _, hc, _⟩
  · simp only [List.cons.injEq, and_true] at hc; exact ⟨_, _, _, hc⟩
  · simp only [List.cons.injEq, and_true] at hc; exact ⟨_, _, _, hc⟩
theorem rd24 {H : Type} {enc : TypeId × Value → H} {w : World} {base : Nat} {spare : Nat → Bool} {held : Bool} {fuel : Nat} {cs : List Value} {d : DataW H} {ps : List MemPlace}
    (h : DataW.trod enc Try.prog w base spare held fuel 24 cs = some (d, ps)) :
    ∃ (x0 : ByteArray) (x1 : ByteArray) (x2 : Int) (x3 : Int) (x4 : Int), cs = [.string x0, .string x1, .int .i64 x2, .int .i64 x3, .int .i64 x4] ∧ (Lit.int .i64 x2).wf = true ∧ (Lit.int .i64 x3).wf = true ∧ (Lit.int .i64 x4).wf = true ∧ (∀ B, (∀ n ∈ d.weights Try.prog 24, n ≤ B) → x0.size ≤ B ∧ x1.size ≤ B) := by
  obtain ⟨xs, n, _, hx, hl, hlen, hf⟩ := DataW.trod_struct Try.underlying24 h
  simp only [Prod.mk.injEq] at hx
  obtain ⟨hd, _⟩ := hx
  match xs, hlen with
  | [y0, y1, y2, y3, y4], _ =>
  have hC : Try.prog.cellsOf 24 = 5 := by kernel_rfl
  rw [hC] at hl
  match cs, hl with
  | [u0, u1, u2, u3, u4], _ =>
  have g0 : DataW.trod enc Try.prog w base spare held n 9 [u0] = some (y0.1, y0.2) := by
    have hc : Try.prog.cellsOf 9 = 1 := by kernel_rfl
    have z := hf 0 _ rfl
    simpa [hc] using z
  obtain ⟨z0, e0, v0, _⟩ := DataW.trod_string Try.underlying9 g0
  simp only [List.cons.injEq, and_true] at e0
  subst e0
  simp only [Prod.mk.injEq] at v0
  have g1 : DataW.trod enc Try.prog w base spare held n 9 [u1] = some (y1.1, y1.2) := by
    have hc : Try.prog.cellsOf 9 = 1 := by kernel_rfl
    have z := hf 1 _ rfl
    simpa [hc] using z
  obtain ⟨z1, e1, v1, _⟩ := DataW.trod_string Try.underlying9 g1
  simp only [List.cons.injEq, and_true] at e1
  subst e1
  simp only [Prod.mk.injEq] at v1
  have g2 : DataW.trod enc Try.prog w base spare held n 3 [u2] = some (y2.1, y2.2) := by
    have hc : Try.prog.cellsOf 3 = 1 := by kernel_rfl
    have z := hf 2 _ rfl
    simpa [hc] using z
  obtain ⟨z2, e2, _, w2⟩ := DataW.trod_int Try.underlying3 g2
  simp only [List.cons.injEq, and_true] at e2
  subst e2
  have g3 : DataW.trod enc Try.prog w base spare held n 3 [u3] = some (y3.1, y3.2) := by
    have hc : Try.prog.cellsOf 3 = 1 := by kernel_rfl
    have z := hf 3 _ rfl
    simpa [hc] using z
  obtain ⟨z3, e3, _, w3⟩ := DataW.trod_int Try.underlying3 g3
  simp only [List.cons.injEq, and_true] at e3
  subst e3
  have g4 : DataW.trod enc Try.prog w base spare held n 3 [u4] = some (y4.1, y4.2) := by
    have hc : Try.prog.cellsOf 3 = 1 := by kernel_rfl
    have z := hf 4 _ rfl
    simpa [hc] using z
  obtain ⟨z4, e4, _, w4⟩ := DataW.trod_int Try.underlying3 g4
  simp only [List.cons.injEq, and_true] at e4
  subst e4
  have hw : ∀ B, (∀ n ∈ d.weights Try.prog 24, n ≤ B) → (∀ n ∈ y0.1.weights Try.prog 9, n ≤ B) ∧ (∀ n ∈ y1.1.weights Try.prog 9, n ≤ B) ∧ (∀ n ∈ y2.1.weights Try.prog 3, n ≤ B) ∧ (∀ n ∈ y3.1.weights Try.prog 3, n ≤ B) ∧ (∀ n ∈ y4.1.weights Try.prog 3, n ≤ B) := by
    intro B hB
    rw [hd] at hB
    simp only [DataW.weights, Try.underlying24, List.map_cons, List.map_nil, DataW.weightsEach, List.mem_append, List.append_nil] at hB
    refine ⟨fun n hn => hB n (by simp [hn]), fun n hn => hB n (by simp [hn]), fun n hn => hB n (by simp [hn]), fun n hn => hB n (by simp [hn]), fun n hn => hB n (by simp [hn])⟩
  exact ⟨z0, z1, z2, z3, z4, rfl, w2, w3, w4, fun B hB => ⟨by have q := (hw B hB).1; rw [v0.1] at q; have q2 := q _ (List.mem_singleton.mpr rfl); rwa [Array.length_toList] at q2, by have q := (hw B hB).2.1; rw [v1.1] at q; have q2 := q _ (List.mem_singleton.mpr rfl); rwa [Array.length_toList] at q2⟩⟩
theorem rd33 {H : Type} {enc : TypeId × Value → H} {w : World} {base : Nat} {spare : Nat → Bool} {held : Bool} {fuel : Nat} {cs : List Value} {d : DataW H} {ps : List MemPlace}
    (h : DataW.trod enc Try.prog w base spare held fuel 33 cs = some (d, ps)) :
    ∃ (x0 : ByteArray) (x1 : ByteArray), cs = [.string x0, .string x1] ∧ (∀ B, (∀ n ∈ d.weights Try.prog 33, n ≤ B) → x0.size ≤ B ∧ x1.size ≤ B) := by
  obtain ⟨xs, n, _, hx, hl, hlen, hf⟩ := DataW.trod_struct Try.underlying33 h
  simp only [Prod.mk.injEq] at hx
  obtain ⟨hd, _⟩ := hx
  match xs, hlen with
  | [y0, y1], _ =>
  have hC : Try.prog.cellsOf 33 = 2 := by kernel_rfl
  rw [hC] at hl
  match cs, hl with
  | [u0, u1], _ =>
  have g0 : DataW.trod enc Try.prog w base spare held n 9 [u0] = some (y0.1, y0.2) := by
    have hc : Try.prog.cellsOf 9 = 1 := by kernel_rfl
    have z := hf 0 _ rfl
    simpa [hc] using z
  obtain ⟨z0, e0, v0, _⟩ := DataW.trod_string Try.underlying9 g0
  simp only [List.cons.injEq, and_true] at e0
  subst e0
  simp only [Prod.mk.injEq] at v0
  have g1 : DataW.trod enc Try.prog w base spare held n 9 [u1] = some (y1.1, y1.2) := by
    have hc : Try.prog.cellsOf 9 = 1 := by kernel_rfl
    have z := hf 1 _ rfl
    simpa [hc] using z
  obtain ⟨z1, e1, v1, _⟩ := DataW.trod_string Try.underlying9 g1
  simp only [List.cons.injEq, and_true] at e1
  subst e1
  simp only [Prod.mk.injEq] at v1
  have hw : ∀ B, (∀ n ∈ d.weights Try.prog 33, n ≤ B) → (∀ n ∈ y0.1.weights Try.prog 9, n ≤ B) ∧ (∀ n ∈ y1.1.weights Try.prog 9, n ≤ B) := by
    intro B hB
    rw [hd] at hB
    simp only [DataW.weights, Try.underlying33, List.map_cons, List.map_nil, DataW.weightsEach, List.mem_append, List.append_nil] at hB
    refine ⟨fun n hn => hB n (by simp [hn]), fun n hn => hB n (by simp [hn])⟩
  exact ⟨z0, z1, rfl, fun B hB => ⟨by have q := (hw B hB).1; rw [v0.1] at q; have q2 := q _ (List.mem_singleton.mpr rfl); rwa [Array.length_toList] at q2, by have q := (hw B hB).2; rw [v1.1] at q; have q2 := q _ (List.mem_singleton.mpr rfl); rwa [Array.length_toList] at q2⟩⟩
theorem rd35 {H : Type} {enc : TypeId × Value → H} {w : World} {base : Nat} {spare : Nat → Bool} {held : Bool} {fuel : Nat} {cs : List Value} {d : DataW H} {ps : List MemPlace}
    (h : DataW.trod enc Try.prog w base spare held fuel 35 cs = some (d, ps)) :
    ∃ (x0 : Int) (x1 : Int), cs = [.int .i64 x0, .int .i64 x1] ∧ (Lit.int .i64 x0).wf = true ∧ (Lit.int .i64 x1).wf = true := by
  obtain ⟨xs, n, _, hx, hl, hlen, hf⟩ := DataW.trod_struct Try.underlying35 h
  simp only [Prod.mk.injEq] at hx
  obtain ⟨hd, _⟩ := hx
  match xs, hlen with
  | [y0, y1], _ =>
  have hC : Try.prog.cellsOf 35 = 2 := by kernel_rfl
  rw [hC] at hl
  match cs, hl with
  | [u0, u1], _ =>
  have g0 : DataW.trod enc Try.prog w base spare held n 3 [u0] = some (y0.1, y0.2) := by
    have hc : Try.prog.cellsOf 3 = 1 := by kernel_rfl
    have z := hf 0 _ rfl
    simpa [hc] using z
  obtain ⟨z0, e0, _, w0⟩ := DataW.trod_int Try.underlying3 g0
  simp only [List.cons.injEq, and_true] at e0
  subst e0
  have g1 : DataW.trod enc Try.prog w base spare held n 3 [u1] = some (y1.1, y1.2) := by
    have hc : Try.prog.cellsOf 3 = 1 := by kernel_rfl
    have z := hf 1 _ rfl
    simpa [hc] using z
  obtain ⟨z1, e1, _, w1⟩ := DataW.trod_int Try.underlying3 g1
  simp only [List.cons.injEq, and_true] at e1
  subst e1
  have hw : ∀ B, (∀ n ∈ d.weights Try.prog 35, n ≤ B) → (∀ n ∈ y0.1.weights Try.prog 3, n ≤ B) ∧ (∀ n ∈ y1.1.weights Try.prog 3, n ≤ B) := by
    intro B hB
    rw [hd] at hB
    simp only [DataW.weights, Try.underlying35, List.map_cons, List.map_nil, DataW.weightsEach, List.mem_append, List.append_nil] at hB
    refine ⟨fun n hn => hB n (by simp [hn]), fun n hn => hB n (by simp [hn])⟩
  exact ⟨z0, z1, rfl, w0, w1⟩
theorem rd37 {H : Type} {enc : TypeId × Value → H} {w : World} {base : Nat} {spare : Nat → Bool} {held : Bool} {fuel : Nat} {cs : List Value} {d : DataW H} {ps : List MemPlace}
    (h : DataW.trod enc Try.prog w base spare held fuel 37 cs = some (d, ps)) :
    ∃ (x0 : ByteArray) (x1 : ByteArray) (x2 : ByteArray) (x3 : ByteArray) (x4 : Int) (x5 : Int) (x6 : Int) (x7 : Int) (x8 : Int), cs = [.string x0, .string x1, .string x2, .string x3, .int .i64 x4, .int .i64 x5, .int .i64 x6, .int .i64 x7, .int .i64 x8] ∧ (Lit.int .i64 x4).wf = true ∧ (Lit.int .i64 x5).wf = true ∧ (Lit.int .i64 x6).wf = true ∧ (Lit.int .i64 x7).wf = true ∧ (Lit.int .i64 x8).wf = true ∧ (∀ B, (∀ n ∈ d.weights Try.prog 37, n ≤ B) → x0.size ≤ B ∧ x1.size ≤ B ∧ x2.size ≤ B ∧ x3.size ≤ B) := by
  obtain ⟨xs, n, _, hx, hl, hlen, hf⟩ := DataW.trod_struct Try.underlying37 h
  simp only [Prod.mk.injEq] at hx
  obtain ⟨hd, _⟩ := hx
  match xs, hlen with
  | [y0, y1, y2, y3, y4], _ =>
  have hC : Try.prog.cellsOf 37 = 9 := by kernel_rfl
  rw [hC] at hl
  match cs, hl with
  | [u0, u1, u2, u3, u4, u5, u6, u7, u8], _ =>
  have g0 : DataW.trod enc Try.prog w base spare held n 33 [u0, u1] = some (y0.1, y0.2) := by
    have hc : Try.prog.cellsOf 33 = 2 := by kernel_rfl
    have z := hf 0 _ rfl
    simpa [hc] using z
  obtain ⟨z0, z1, e0, w0_0⟩ := rd33 g0
  simp only [List.cons.injEq, and_true] at e0
  obtain ⟨rfl, rfl⟩ := e0
  have g1 : DataW.trod enc Try.prog w base spare held n 33 [u2, u3] = some (y1.1, y1.2) := by
    have hc : Try.prog.cellsOf 33 = 2 := by kernel_rfl
    have z := hf 1 _ rfl
    simpa [hc] using z
  obtain ⟨z2, z3, e1, w1_0⟩ := rd33 g1
  simp only [List.cons.injEq, and_true] at e1
  obtain ⟨rfl, rfl⟩ := e1
  have g2 : DataW.trod enc Try.prog w base spare held n 3 [u4] = some (y2.1, y2.2) := by
    have hc : Try.prog.cellsOf 3 = 1 := by kernel_rfl
    have z := hf 2 _ rfl
    simpa [hc] using z
  obtain ⟨z4, e2, _, w2⟩ := DataW.trod_int Try.underlying3 g2
  simp only [List.cons.injEq, and_true] at e2
  subst e2
  have g3 : DataW.trod enc Try.prog w base spare held n 35 [u5, u6] = some (y3.1, y3.2) := by
    have hc : Try.prog.cellsOf 35 = 2 := by kernel_rfl
    have z := hf 3 _ rfl
    simpa [hc] using z
  obtain ⟨z5, z6, e3, w3_0, w3_1⟩ := rd35 g3
  simp only [List.cons.injEq, and_true] at e3
  obtain ⟨rfl, rfl⟩ := e3
  have g4 : DataW.trod enc Try.prog w base spare held n 35 [u7, u8] = some (y4.1, y4.2) := by
    have hc : Try.prog.cellsOf 35 = 2 := by kernel_rfl
    have z := hf 4 _ rfl
    simpa [hc] using z
  obtain ⟨z7, z8, e4, w4_0, w4_1⟩ := rd35 g4
  simp only [List.cons.injEq, and_true] at e4
  obtain ⟨rfl, rfl⟩ := e4
  have hw : ∀ B, (∀ n ∈ d.weights Try.prog 37, n ≤ B) → (∀ n ∈ y0.1.weights Try.prog 33, n ≤ B) ∧ (∀ n ∈ y1.1.weights Try.prog 33, n ≤ B) ∧ (∀ n ∈ y2.1.weights Try.prog 3, n ≤ B) ∧ (∀ n ∈ y3.1.weights Try.prog 35, n ≤ B) ∧ (∀ n ∈ y4.1.weights Try.prog 35, n ≤ B) := by
    intro B hB
    rw [hd] at hB
    simp only [DataW.weights, Try.underlying37, List.map_cons, List.map_nil, DataW.weightsEach, List.mem_append, List.append_nil] at hB
    refine ⟨fun n hn => hB n (by simp [hn]), fun n hn => hB n (by simp [hn]), fun n hn => hB n (by simp [hn]), fun n hn => hB n (by simp [hn]), fun n hn => hB n (by simp [hn])⟩
  exact ⟨z0, z1, z2, z3, z4, z5, z6, z7, z8, rfl, w2, w3_0, w3_1, w4_0, w4_1, fun B hB => ⟨(w0_0 B ((hw B hB).1)).1, (w0_0 B ((hw B hB).1)).2, (w1_0 B ((hw B hB).2.1)).1, (w1_0 B ((hw B hB).2.1)).2⟩⟩
end Go.Proofs.Ytcohcbfodmoblaa.Reads
