/- Written by a program of this session (wip/tools/gen_read.py): what the reading of a struct that came in tells of its cells. -/
import Derived.Test.YtdpfopeofeofcaaProg
import Derived.WalkKit
import Derived.ProofKit
import Derived.ChangeArms
import Derived.SizedLaws
set_option linter.unusedVariables false
set_option linter.unusedSimpArgs false
namespace Go.Proofs.Ytdpfopeofeofcaa.Reads
open Go.RowKit
theorem sl_form {H : Type} {enc : TypeId × Value → H} {P : Program} {w : World} {base : Nat} {spare : Nat → Bool} {held : Bool} {fuel : Nat} {t e : TypeId} {v : Value} {y : DataW H × List MemPlace}
    (ht : P.underlying t = some (.slice e)) (h : DataW.trod enc P w base spare held fuel t [v] = some y) : ∃ a n c, v = .slice a n c := by
  rcases DataW.trod_slice ht h with ⟨hc, _⟩ | ⟨a, n, c, _, _, _, _, hc, _⟩
  · simp only [List.cons.injEq, and_true] at hc; exact ⟨_, _, _, hc⟩
  · simp only [List.cons.injEq, and_true] at hc; exact ⟨_, _, _, hc⟩
theorem rd29 {H : Type} {enc : TypeId × Value → H} {w : World} {base : Nat} {spare : Nat → Bool} {held : Bool} {fuel : Nat} {cs : List Value} {d : DataW H} {ps : List MemPlace}
    (h : DataW.trod enc Try.prog w base spare held fuel 29 cs = some (d, ps)) :
    ∃ (x0 : ByteArray) (x1 : ByteArray), cs = [.string x0, .string x1] ∧ (∀ B, (∀ n ∈ d.weights Try.prog 29, n ≤ B) → x0.size ≤ B ∧ x1.size ≤ B) := by
  obtain ⟨xs, n, _, hx, hl, hlen, hf⟩ := DataW.trod_struct Try.underlying29 h
  simp only [Prod.mk.injEq] at hx
  obtain ⟨hd, _⟩ := hx
  match xs, hlen with
  | [y0, y1], _ =>
  have hC : Try.prog.cellsOf 29 = 2 := by kernel_rfl
  rw [hC] at hl
  match cs, hl with
  | [u0, u1], _ =>
  have g0 : DataW.trod enc Try.prog w base spare held n 9 [u0] = some (y0.1, y0.2) := by
    have hc : Try.prog.cellsOf 9 = 1 := by kernel_rfl
    have z := hf 0 _ rfl
    simpa [hc] using z
  obtain ⟨z0, e0, v0, _⟩ := DataW.trod_string Try.underlying9 g0
  simp only [List.cons.injEq, and_true] at e0
  subst e0
  simp only [Prod.mk.injEq] at v0
  have g1 : DataW.trod enc Try.prog w base spare held n 9 [u1] = some (y1.1, y1.2) := by
    have hc : Try.prog.cellsOf 9 = 1 := by kernel_rfl
    have z := hf 1 _ rfl
    simpa [hc] using z
  obtain ⟨z1, e1, v1, _⟩ := DataW.trod_string Try.underlying9 g1
  simp only [List.cons.injEq, and_true] at e1
  subst e1
  simp only [Prod.mk.injEq] at v1
  have hw : ∀ B, (∀ n ∈ d.weights Try.prog 29, n ≤ B) → (∀ n ∈ y0.1.weights Try.prog 9, n ≤ B) ∧ (∀ n ∈ y1.1.weights Try.prog 9, n ≤ B) := by
    intro B hB
    rw [hd] at hB
    simp only [DataW.weights, Try.underlying29, List.map_cons, List.map_nil, DataW.weightsEach, List.mem_append, List.append_nil] at hB
    refine ⟨fun n hn => hB n (by simp [hn]), fun n hn => hB n (by simp [hn])⟩
  exact ⟨z0, z1, rfl, fun B hB => ⟨by have q := (hw B hB).1; rw [v0.1] at q; have q2 := q _ (List.mem_singleton.mpr rfl); rwa [Array.length_toList] at q2, by have q := (hw B hB).2; rw [v1.1] at q; have q2 := q _ (List.mem_singleton.mpr rfl); rwa [Array.length_toList] at q2⟩⟩
theorem rd31 {H : Type} {enc : TypeId × Value → H} {w : World} {base : Nat} {spare : Nat → Bool} {held : Bool} {fuel : Nat} {cs : List Value} {d : DataW H} {ps : List MemPlace}
    (h : DataW.trod enc Try.prog w base spare held fuel 31 cs = some (d, ps)) :
    ∃ (x0 : Int) (x1 : Int), cs = [.int .i64 x0, .int .i64 x1] ∧ (Lit.int .i64 x0).wf = true ∧ (Lit.int .i64 x1).wf = true := by
  obtain ⟨xs, n, _, hx, hl, hlen, hf⟩ := DataW.trod_struct Try.underlying31 h
  simp only [Prod.mk.injEq] at hx
  obtain ⟨hd, _⟩ := hx
  match xs, hlen with
  | [y0, y1], _ =>
  have hC : Try.prog.cellsOf 31 = 2 := by kernel_rfl
  rw [hC] at hl
  match cs, hl with
  | [u0, u1], _ =>
  have g0 : DataW.trod enc Try.prog w base spare held n 3 [u0] = some (y0.1, y0.2) := by
    have hc : Try.prog.cellsOf 3 = 1 := by kernel_rfl
    have z := hf 0 _ rfl
    simpa [hc] using z
  obtain ⟨z0, e0, _, w0⟩ := DataW.trod_int Try.underlying3 g0
  simp only [List.cons.injEq, and_true] at e0
  subst e0
  have g1 : DataW.trod enc Try.prog w base spare held n 3 [u1] = some (y1.1, y1.2) := by
    have hc : Try.prog.cellsOf 3 = 1 := by kernel_rfl
    have z := hf 1 _ rfl
    simpa [hc] using z
  obtain ⟨z1, e1, _, w1⟩ := DataW.trod_int Try.underlying3 g1
  simp only [List.cons.injEq, and_true] at e1
  subst e1
  have hw : ∀ B, (∀ n ∈ d.weights Try.prog 31, n ≤ B) → (∀ n ∈ y0.1.weights Try.prog 3, n ≤ B) ∧ (∀ n ∈ y1.1.weights Try.prog 3, n ≤ B) := by
    intro B hB
    rw [hd] at hB
    simp only [DataW.weights, Try.underlying31, List.map_cons, List.map_nil, DataW.weightsEach, List.mem_append, List.append_nil] at hB
    refine ⟨fun n hn => hB n (by simp [hn]), fun n hn => hB n (by simp [hn])⟩
  exact ⟨z0, z1, rfl, w0, w1⟩
theorem rd33 {H : Type} {enc : TypeId × Value → H} {w : World} {base : Nat} {spare : Nat → Bool} {held : Bool} {fuel : Nat} {cs : List Value} {d : DataW H} {ps : List MemPlace}
    (h : DataW.trod enc Try.prog w base spare held fuel 33 cs = some (d, ps)) :
    ∃ (x0 : ByteArray) (x1 : ByteArray) (x2 : ByteArray) (x3 : ByteArray) (x4 : Int) (x5 : Int) (x6 : Int) (x7 : Int) (x8 : Int), cs = [.string x0, .string x1, .string x2, .string x3, .int .i64 x4, .int .i64 x5, .int .i64 x6, .int .i64 x7, .int .i64 x8] ∧ (Lit.int .i64 x4).wf = true ∧ (Lit.int .i64 x5).wf = true ∧ (Lit.int .i64 x6).wf = true ∧ (Lit.int .i64 x7).wf = true ∧ (Lit.int .i64 x8).wf = true ∧ (∀ B, (∀ n ∈ d.weights Try.prog 33, n ≤ B) → x0.size ≤ B ∧ x1.size ≤ B ∧ x2.size ≤ B ∧ x3.size ≤ B) := by
  obtain ⟨xs, n, _, hx, hl, hlen, hf⟩ := DataW.trod_struct Try.underlying33 h
  simp only [Prod.mk.injEq] at hx
  obtain ⟨hd, _⟩ := hx
  match xs, hlen with
  | [y0, y1, y2, y3, y4], _ =>
  have hC : Try.prog.cellsOf 33 = 9 := by kernel_rfl
  rw [hC] at hl
  match cs, hl with
  | [u0, u1, u2, u3, u4, u5, u6, u7, u8], _ =>
  have g0 : DataW.trod enc Try.prog w base spare held n 29 [u0, u1] = some (y0.1, y0.2) := by
    have hc : Try.prog.cellsOf 29 = 2 := by kernel_rfl
    have z := hf 0 _ rfl
    simpa [hc] using z
  obtain ⟨z0, z1, e0, w0_0⟩ := rd29 g0
  simp only [List.cons.injEq, and_true] at e0
  obtain ⟨rfl, rfl⟩ := e0
  have g1 : DataW.trod enc Try.prog w base spare held n 29 [u2, u3] = some (y1.1, y1.2) := by
    have hc : Try.prog.cellsOf 29 = 2 := by kernel_rfl
    have z := hf 1 _ rfl
    simpa [hc] using z
  obtain ⟨z2, z3, e1, w1_0⟩ := rd29 g1
  simp only [List.cons.injEq, and_true] at e1
  obtain ⟨rfl, rfl⟩ := e1
  have g2 : DataW.trod enc Try.prog w base spare held n 3 [u4] = some (y2.1, y2.2) := by
    have hc : Try.prog.cellsOf 3 = 1 := by kernel_rfl
    have z := hf 2 _ rfl
    simpa [hc] using z
  obtain ⟨z4, e2, _, w2⟩ := DataW.trod_int Try.underlying3 g2
  simp only [List.cons.injEq, and_true] at e2
  subst e2
  have g3 : DataW.trod enc Try.prog w base spare held n 31 [u5, u6] = some (y3.1, y3.2) := by
    have hc : Try.prog.cellsOf 31 = 2 := by kernel_rfl
    have z := hf 3 _ rfl
    simpa [hc] using z
  obtain ⟨z5, z6, e3, w3_0, w3_1⟩ := rd31 g3
  simp only [List.cons.injEq, and_true] at e3
  obtain ⟨rfl, rfl⟩ := e3
  have g4 : DataW.trod enc Try.prog w base spare held n 31 [u7, u8] = some (y4.1, y4.2) := by
    have hc : Try.prog.cellsOf 31 = 2 := by kernel_rfl
    have z := hf 4 _ rfl
    simpa [hc] using z
  obtain ⟨z7, z8, e4, w4_0, w4_1⟩ := rd31 g4
  simp only [List.cons.injEq, and_true] at e4
  obtain ⟨rfl, rfl⟩ := e4
  have hw : ∀ B, (∀ n ∈ d.weights Try.prog 33, n ≤ B) → (∀ n ∈ y0.1.weights Try.prog 29, n ≤ B) ∧ (∀ n ∈ y1.1.weights Try.prog 29, n ≤ B) ∧ (∀ n ∈ y2.1.weights Try.prog 3, n ≤ B) ∧ (∀ n ∈ y3.1.weights Try.prog 31, n ≤ B) ∧ (∀ n ∈ y4.1.weights Try.prog 31, n ≤ B) := by
    intro B hB
    rw [hd] at hB
    simp only [DataW.weights, Try.underlying33, List.map_cons, List.map_nil, DataW.weightsEach, List.mem_append, List.append_nil] at hB
    refine ⟨fun n hn => hB n (by simp [hn]), fun n hn => hB n (by simp [hn]), fun n hn => hB n (by simp [hn]), fun n hn => hB n (by simp [hn]), fun n hn => hB n (by simp [hn])⟩
  exact ⟨z0, z1, z2, z3, z4, z5, z6, z7, z8, rfl, w2, w3_0, w3_1, w4_0, w4_1, fun B hB => ⟨(w0_0 B ((hw B hB).1)).1, (w0_0 B ((hw B hB).1)).2, (w1_0 B ((hw B hB).2.1)).1, (w1_0 B ((hw B hB).2.1)).2⟩⟩
theorem rd35 {H : Type} {enc : TypeId × Value → H} {w : World} {base : Nat} {spare : Nat → Bool} {held : Bool} {fuel : Nat} {cs : List Value} {d : DataW H} {ps : List MemPlace}
    (h : DataW.trod enc Try.prog w base spare held fuel 35 cs = some (d, ps)) :
    ∃ (x0 : Int) (x1 : ByteArray) (x2 : ByteArray) (x3 : ByteArray) (x4 : ByteArray) (x5 : Int) (x6 : Int) (x7 : Int) (x8 : Int) (x9 : Int) (x10 : Bool) (x11 : Bool) (x12 : Int) (x13 : Bool) (x14 : ByteArray) (x15 : ByteArray), cs = [.int .i64 x0, .string x1, .string x2, .string x3, .string x4, .int .i64 x5, .int .i64 x6, .int .i64 x7, .int .i64 x8, .int .i64 x9, .bool x10, .bool x11, .int .i64 x12, .bool x13, .string x14, .string x15] ∧ (Lit.int .i64 x0).wf = true ∧ (Lit.int .i64 x5).wf = true ∧ (Lit.int .i64 x6).wf = true ∧ (Lit.int .i64 x7).wf = true ∧ (Lit.int .i64 x8).wf = true ∧ (Lit.int .i64 x9).wf = true ∧ (Lit.int .i64 x12).wf = true ∧ (∀ B, (∀ n ∈ d.weights Try.prog 35, n ≤ B) → x1.size ≤ B ∧ x2.size ≤ B ∧ x3.size ≤ B ∧ x4.size ≤ B ∧ x14.size ≤ B ∧ x15.size ≤ B) := by
  obtain ⟨xs, n, _, hx, hl, hlen, hf⟩ := DataW.trod_struct Try.underlying35 h
  simp only [Prod.mk.injEq] at hx
  obtain ⟨hd, _⟩ := hx
  match xs, hlen with
  | [y0, y1, y2, y3, y4, y5, y6, y7], _ =>
  have hC : Try.prog.cellsOf 35 = 16 := by kernel_rfl
  rw [hC] at hl
  match cs, hl with
  | [u0, u1, u2, u3, u4, u5, u6, u7, u8, u9, u10, u11, u12, u13, u14, u15], _ =>
  have g0 : DataW.trod enc Try.prog w base spare held n 3 [u0] = some (y0.1, y0.2) := by
    have hc : Try.prog.cellsOf 3 = 1 := by kernel_rfl
    have z := hf 0 _ rfl
    simpa [hc] using z
  obtain ⟨z0, e0, _, w0⟩ := DataW.trod_int Try.underlying3 g0
  simp only [List.cons.injEq, and_true] at e0
  subst e0
  have g1 : DataW.trod enc Try.prog w base spare held n 33 [u1, u2, u3, u4, u5, u6, u7, u8, u9] = some (y1.1, y1.2) := by
    have hc : Try.prog.cellsOf 33 = 9 := by kernel_rfl
    have z := hf 1 _ rfl
    simpa [hc] using z
  obtain ⟨z1, z2, z3, z4, z5, z6, z7, z8, z9, e1, w1_0, w1_1, w1_2, w1_3, w1_4, w1_5⟩ := rd33 g1
  simp only [List.cons.injEq, and_true] at e1
  obtain ⟨rfl, rfl, rfl, rfl, rfl, rfl, rfl, rfl, rfl⟩ := e1
  have g2 : DataW.trod enc Try.prog w base spare held n 4 [u10] = some (y2.1, y2.2) := by
    have hc : Try.prog.cellsOf 4 = 1 := by kernel_rfl
    have z := hf 2 _ rfl
    simpa [hc] using z
  obtain ⟨z10, e2, _⟩ := DataW.trod_bool Try.underlying4 g2
  simp only [List.cons.injEq, and_true] at e2
  subst e2
  have g3 : DataW.trod enc Try.prog w base spare held n 4 [u11] = some (y3.1, y3.2) := by
    have hc : Try.prog.cellsOf 4 = 1 := by kernel_rfl
    have z := hf 3 _ rfl
    simpa [hc] using z
  obtain ⟨z11, e3, _⟩ := DataW.trod_bool Try.underlying4 g3
  simp only [List.cons.injEq, and_true] at e3
  subst e3
  have g4 : DataW.trod enc Try.prog w base spare held n 3 [u12] = some (y4.1, y4.2) := by
    have hc : Try.prog.cellsOf 3 = 1 := by kernel_rfl
    have z := hf 4 _ rfl
    simpa [hc] using z
  obtain ⟨z12, e4, _, w4⟩ := DataW.trod_int Try.underlying3 g4
  simp only [List.cons.injEq, and_true] at e4
  subst e4
  have g5 : DataW.trod enc Try.prog w base spare held n 4 [u13] = some (y5.1, y5.2) := by
    have hc : Try.prog.cellsOf 4 = 1 := by kernel_rfl
    have z := hf 5 _ rfl
    simpa [hc] using z
  obtain ⟨z13, e5, _⟩ := DataW.trod_bool Try.underlying4 g5
  simp only [List.cons.injEq, and_true] at e5
  subst e5
  have g6 : DataW.trod enc Try.prog w base spare held n 9 [u14] = some (y6.1, y6.2) := by
    have hc : Try.prog.cellsOf 9 = 1 := by kernel_rfl
    have z := hf 6 _ rfl
    simpa [hc] using z
  obtain ⟨z14, e6, v6, _⟩ := DataW.trod_string Try.underlying9 g6
  simp only [List.cons.injEq, and_true] at e6
  subst e6
  simp only [Prod.mk.injEq] at v6
  have g7 : DataW.trod enc Try.prog w base spare held n 9 [u15] = some (y7.1, y7.2) := by
    have hc : Try.prog.cellsOf 9 = 1 := by kernel_rfl
    have z := hf 7 _ rfl
    simpa [hc] using z
  obtain ⟨z15, e7, v7, _⟩ := DataW.trod_string Try.underlying9 g7
  simp only [List.cons.injEq, and_true] at e7
  subst e7
  simp only [Prod.mk.injEq] at v7
  have hw : ∀ B, (∀ n ∈ d.weights Try.prog 35, n ≤ B) → (∀ n ∈ y0.1.weights Try.prog 3, n ≤ B) ∧ (∀ n ∈ y1.1.weights Try.prog 33, n ≤ B) ∧ (∀ n ∈ y2.1.weights Try.prog 4, n ≤ B) ∧ (∀ n ∈ y3.1.weights Try.prog 4, n ≤ B) ∧ (∀ n ∈ y4.1.weights Try.prog 3, n ≤ B) ∧ (∀ n ∈ y5.1.weights Try.prog 4, n ≤ B) ∧ (∀ n ∈ y6.1.weights Try.prog 9, n ≤ B) ∧ (∀ n ∈ y7.1.weights Try.prog 9, n ≤ B) := by
    intro B hB
    rw [hd] at hB
    simp only [DataW.weights, Try.underlying35, List.map_cons, List.map_nil, DataW.weightsEach, List.mem_append, List.append_nil] at hB
    refine ⟨fun n hn => hB n (by simp [hn]), fun n hn => hB n (by simp [hn]), fun n hn => hB n (by simp [hn]), fun n hn => hB n (by simp [hn]), fun n hn => hB n (by simp [hn]), fun n hn => hB n (by simp [hn]), fun n hn => hB n (by simp [hn]), fun n hn => hB n (by simp [hn])⟩
  exact ⟨z0, z1, z2, z3, z4, z5, z6, z7, z8, z9, z10, z11, z12, z13, z14, z15, rfl, w0, w1_0, w1_1, w1_2, w1_3, w1_4, w4, fun B hB => ⟨(w1_5 B ((hw B hB).2.1)).1, (w1_5 B ((hw B hB).2.1)).2.1, (w1_5 B ((hw B hB).2.1)).2.2.1, (w1_5 B ((hw B hB).2.1)).2.2.2, by have q := (hw B hB).2.2.2.2.2.2.1; rw [v6.1] at q; have q2 := q _ (List.mem_singleton.mpr rfl); rwa [Array.length_toList] at q2, by have q := (hw B hB).2.2.2.2.2.2.2; rw [v7.1] at q; have q2 := q _ (List.mem_singleton.mpr rfl); rwa [Array.length_toList] at q2⟩⟩
theorem rd24 {H : Type} {enc : TypeId × Value → H} {w : World} {base : Nat} {spare : Nat → Bool} {held : Bool} {fuel : Nat} {cs : List Value} {d : DataW H} {ps : List MemPlace}
    (h : DataW.trod enc Try.prog w base spare held fuel 24 cs = some (d, ps)) :
    ∃ (x0 : ByteArray) (x1 : ByteArray) (x2 : Int) (x3 : Int) (x4 : Int), cs = [.string x0, .string x1, .int .i64 x2, .int .i64 x3, .int .i64 x4] ∧ (Lit.int .i64 x2).wf = true ∧ (Lit.int .i64 x3).wf = true ∧ (Lit.int .i64 x4).wf = true ∧ (∀ B, (∀ n ∈ d.weights Try.prog 24, n ≤ B) → x0.size ≤ B ∧ x1.size ≤ B) := by
  obtain ⟨xs, n, _, hx, hl, hlen, hf⟩ := DataW.trod_struct Try.underlying24 h
  simp only [Prod.mk.injEq] at hx
  obtain ⟨hd, _⟩ := hx
  match xs, hlen with
  | [y0, y1, y2, y3, y4], _ =>
  have hC : Try.prog.cellsOf 24 = 5 := by kernel_rfl
  rw [hC] at hl
  match cs, hl with
  | [u0, u1, u2, u3, u4], _ =>
  have g0 : DataW.trod enc Try.prog w base spare held n 9 [u0] = some (y0.1, y0.2) := by
    have hc : Try.prog.cellsOf 9 = 1 := by kernel_rfl
    have z := hf 0 _ rfl
    simpa [hc] using z
  obtain ⟨z0, e0, v0, _⟩ := DataW.trod_string Try.underlying9 g0
  simp only [List.cons.injEq, and_true] at e0
  subst e0
  simp only [Prod.mk.injEq] at v0
  have g1 : DataW.trod enc Try.prog w base spare held n 9 [u1] = some (y1.1, y1.2) := by
    have hc : Try.prog.cellsOf 9 = 1 := by kernel_rfl
    have z := hf 1 _ rfl
    simpa [hc] using z
  obtain ⟨z1, e1, v1, _⟩ := DataW.trod_string Try.underlying9 g1
  simp only [List.cons.injEq, and_true] at e1
  subst e1
  simp only [Prod.mk.injEq] at v1
  have g2 : DataW.trod enc Try.prog w base spare held n 3 [u2] = some (y2.1, y2.2) := by
    have hc : Try.prog.cellsOf 3 = 1 := by kernel_rfl
    have z := hf 2 _ rfl
    simpa [hc] using z
  obtain ⟨z2, e2, _, w2⟩ := DataW.trod_int Try.underlying3 g2
  simp only [List.cons.injEq, and_true] at e2
  subst e2
  have g3 : DataW.trod enc Try.prog w base spare held n 3 [u3] = some (y3.1, y3.2) := by
    have hc : Try.prog.cellsOf 3 = 1 := by kernel_rfl
    have z := hf 3 _ rfl
    simpa [hc] using z
  obtain ⟨z3, e3, _, w3⟩ := DataW.trod_int Try.underlying3 g3
  simp only [List.cons.injEq, and_true] at e3
  subst e3
  have g4 : DataW.trod enc Try.prog w base spare held n 3 [u4] = some (y4.1, y4.2) := by
    have hc : Try.prog.cellsOf 3 = 1 := by kernel_rfl
    have z := hf 4 _ rfl
    simpa [hc] using z
  obtain ⟨z4, e4, _, w4⟩ := DataW.trod_int Try.underlying3 g4
  simp only [List.cons.injEq, and_true] at e4
  subst e4
  have hw : ∀ B, (∀ n ∈ d.weights Try.prog 24, n ≤ B) → (∀ n ∈ y0.1.weights Try.prog 9, n ≤ B) ∧ (∀ n ∈ y1.1.weights Try.prog 9, n ≤ B) ∧ (∀ n ∈ y2.1.weights Try.prog 3, n ≤ B) ∧ (∀ n ∈ y3.1.weights Try.prog 3, n ≤ B) ∧ (∀ n ∈ y4.1.weights Try.prog 3, n ≤ B) := by
    intro B hB
    rw [hd] at hB
    simp only [DataW.weights, Try.underlying24, List.map_cons, List.map_nil, DataW.weightsEach, List.mem_append, List.append_nil] at hB
    refine ⟨fun n hn => hB n (by simp [hn]), fun n hn => hB n (by simp [hn]), fun n hn => hB n (by simp [hn]), fun n hn => hB n (by simp [hn]), fun n hn => hB n (by simp [hn])⟩
  exact ⟨z0, z1, z2, z3, z4, rfl, w2, w3, w4, fun B hB => ⟨by have q := (hw B hB).1; rw [v0.1] at q; have q2 := q _ (List.mem_singleton.mpr rfl); rwa [Array.length_toList] at q2, by have q := (hw B hB).2.1; rw [v1.1] at q; have q2 := q _ (List.mem_singleton.mpr rfl); rwa [Array.length_toList] at q2⟩⟩
theorem rd37 {H : Type} {enc : TypeId × Value → H} {w : World} {base : Nat} {spare : Nat → Bool} {held : Bool} {fuel : Nat} {cs : List Value} {d : DataW H} {ps : List MemPlace}
    (h : DataW.trod enc Try.prog w base spare held fuel 37 cs = some (d, ps)) :
    ∃ (x0 : Int) (x1 : Int) (x2 : Int) (x3 : ByteArray) (x4 : ByteArray) (x5 : ByteArray) (x6 : ByteArray) (x7 : Int) (x8 : Int) (x9 : Int) (x10 : Int) (x11 : Int) (x12 : Bool) (x13 : Bool) (x14 : Int) (x15 : Bool) (x16 : ByteArray) (x17 : ByteArray) (x18 : ByteArray) (x19 : ByteArray) (x20 : Int) (x21 : Int) (x22 : Int) (x23 : Bool), cs = [.int .i64 x0, .int .i64 x1, .int .i64 x2, .string x3, .string x4, .string x5, .string x6, .int .i64 x7, .int .i64 x8, .int .i64 x9, .int .i64 x10, .int .i64 x11, .bool x12, .bool x13, .int .i64 x14, .bool x15, .string x16, .string x17, .string x18, .string x19, .int .i64 x20, .int .i64 x21, .int .i64 x22, .bool x23] ∧ (Lit.int .i64 x0).wf = true ∧ (Lit.int .i64 x1).wf = true ∧ (Lit.int .i64 x2).wf = true ∧ (Lit.int .i64 x7).wf = true ∧ (Lit.int .i64 x8).wf = true ∧ (Lit.int .i64 x9).wf = true ∧ (Lit.int .i64 x10).wf = true ∧ (Lit.int .i64 x11).wf = true ∧ (Lit.int .i64 x14).wf = true ∧ (Lit.int .i64 x20).wf = true ∧ (Lit.int .i64 x21).wf = true ∧ (Lit.int .i64 x22).wf = true ∧ (∀ B, (∀ n ∈ d.weights Try.prog 37, n ≤ B) → x3.size ≤ B ∧ x4.size ≤ B ∧ x5.size ≤ B ∧ x6.size ≤ B ∧ x16.size ≤ B ∧ x17.size ≤ B ∧ x18.size ≤ B ∧ x19.size ≤ B) := by
  obtain ⟨xs, n, _, hx, hl, hlen, hf⟩ := DataW.trod_struct Try.underlying37 h
  simp only [Prod.mk.injEq] at hx
  obtain ⟨hd, _⟩ := hx
  match xs, hlen with
  | [y0, y1, y2, y3, y4], _ =>
  have hC : Try.prog.cellsOf 37 = 24 := by kernel_rfl
  rw [hC] at hl
  match cs, hl with
  | [u0, u1, u2, u3, u4, u5, u6, u7, u8, u9, u10, u11, u12, u13, u14, u15, u16, u17, u18, u19, u20, u21, u22, u23], _ =>
  have g0 : DataW.trod enc Try.prog w base spare held n 3 [u0] = some (y0.1, y0.2) := by
    have hc : Try.prog.cellsOf 3 = 1 := by kernel_rfl
    have z := hf 0 _ rfl
    simpa [hc] using z
  obtain ⟨z0, e0, _, w0⟩ := DataW.trod_int Try.underlying3 g0
  simp only [List.cons.injEq, and_true] at e0
  subst e0
  have g1 : DataW.trod enc Try.prog w base spare held n 3 [u1] = some (y1.1, y1.2) := by
    have hc : Try.prog.cellsOf 3 = 1 := by kernel_rfl
    have z := hf 1 _ rfl
    simpa [hc] using z
  obtain ⟨z1, e1, _, w1⟩ := DataW.trod_int Try.underlying3 g1
  simp only [List.cons.injEq, and_true] at e1
  subst e1
  have g2 : DataW.trod enc Try.prog w base spare held n 35 [u2, u3, u4, u5, u6, u7, u8, u9, u10, u11, u12, u13, u14, u15, u16, u17] = some (y2.1, y2.2) := by
    have hc : Try.prog.cellsOf 35 = 16 := by kernel_rfl
    have z := hf 2 _ rfl
    simpa [hc] using z
  obtain ⟨z2, z3, z4, z5, z6, z7, z8, z9, z10, z11, z12, z13, z14, z15, z16, z17, e2, w2_0, w2_1, w2_2, w2_3, w2_4, w2_5, w2_6, w2_7⟩ := rd35 g2
  simp only [List.cons.injEq, and_true] at e2
  obtain ⟨rfl, rfl, rfl, rfl, rfl, rfl, rfl, rfl, rfl, rfl, rfl, rfl, rfl, rfl, rfl, rfl⟩ := e2
  have g3 : DataW.trod enc Try.prog w base spare held n 24 [u18, u19, u20, u21, u22] = some (y3.1, y3.2) := by
    have hc : Try.prog.cellsOf 24 = 5 := by kernel_rfl
    have z := hf 3 _ rfl
    simpa [hc] using z
  obtain ⟨z18, z19, z20, z21, z22, e3, w3_0, w3_1, w3_2, w3_3⟩ := rd24 g3
  simp only [List.cons.injEq, and_true] at e3
  obtain ⟨rfl, rfl, rfl, rfl, rfl⟩ := e3
  have g4 : DataW.trod enc Try.prog w base spare held n 4 [u23] = some (y4.1, y4.2) := by
    have hc : Try.prog.cellsOf 4 = 1 := by kernel_rfl
    have z := hf 4 _ rfl
    simpa [hc] using z
  obtain ⟨z23, e4, _⟩ := DataW.trod_bool Try.underlying4 g4
  simp only [List.cons.injEq, and_true] at e4
  subst e4
  have hw : ∀ B, (∀ n ∈ d.weights Try.prog 37, n ≤ B) → (∀ n ∈ y0.1.weights Try.prog 3, n ≤ B) ∧ (∀ n ∈ y1.1.weights Try.prog 3, n ≤ B) ∧ (∀ n ∈ y2.1.weights Try.prog 35, n ≤ B) ∧ (∀ n ∈ y3.1.weights Try.prog 24, n ≤ B) ∧ (∀ n ∈ y4.1.weights Try.prog 4, n ≤ B) := by
    intro B hB
    rw [hd] at hB
    simp only [DataW.weights, Try.underlying37, List.map_cons, List.map_nil, DataW.weightsEach, List.mem_append, List.append_nil] at hB
    refine ⟨fun n hn => hB n (by simp [hn]), fun n hn => hB n (by simp [hn]), fun n hn => hB n (by simp [hn]), fun n hn => hB n (by simp [hn]), fun n hn => hB n (by simp [hn])⟩
  exact ⟨z0, z1, z2, z3, z4, z5, z6, z7, z8, z9, z10, z11, z12, z13, z14, z15, z16, z17, z18, z19, z20, z21, z22, z23, rfl, w0, w1, w2_0, w2_1, w2_2, w2_3, w2_4, w2_5, w2_6, w3_0, w3_1, w3_2, fun B hB => ⟨(w2_7 B ((hw B hB).2.2.1)).1, (w2_7 B ((hw B hB).2.2.1)).2.1, (w2_7 B ((hw B hB).2.2.1)).2.2.1, (w2_7 B ((hw B hB).2.2.1)).2.2.2.1, (w2_7 B ((hw B hB).2.2.1)).2.2.2.2.1, (w2_7 B ((hw B hB).2.2.1)).2.2.2.2.2, (w3_3 B ((hw B hB).2.2.2.1)).1, (w3_3 B ((hw B hB).2.2.2.1)).2⟩⟩
end Go.Proofs.Ytdpfopeofeofcaa.Reads
