/- Written by a program of this session (wip/tools/gen_read.py): what the reading of a struct that came in tells of its cells. -/
import Derived.Test.YtkmnpnbfeiobiaaDoorProg
import Derived.WalkKit
import Derived.ProofKit
import Derived.ChangeArms
import Derived.SizedLaws
set_option linter.unusedVariables false
set_option linter.unusedSimpArgs false
namespace Go.Proofs.YtkmnpnbfeiobiaaDoor.Reads
open Go.RowKit
theorem sl_form {H : Type} {enc : TypeId × Value → H} {P : Program} {w : World} {base : Nat} {spare : Nat → Bool} {held : Bool} {fuel : Nat} {t e : TypeId} {v : Value} {y : DataW H × List MemPlace}
    (ht : P.underlying t = some (.slice e)) (h : DataW.trod enc P w base spare held fuel t [v] = some y) : ∃ a n c, v = .slice a n c := by
  rcases DataW.trod_slice ht h with ⟨hc, _⟩ | ⟨a, n, c, _, _, _, _, hc, _⟩
  · simp only [List.cons.injEq, and_true] at hc; exact ⟨_, _, _, hc⟩
  · simp only [List.cons.injEq, and_true] at hc; exact ⟨_, _, _, hc⟩
set_option maxRecDepth 100000 in
theorem rd25 {H : Type} {enc : TypeId × Value → H} {w : World} {base : Nat} {spare : Nat → Bool} {held : Bool} {fuel : Nat} {cs : List Value} {d : DataW H} {ps : List MemPlace}
    (h : DataW.trod enc Tryd.prog w base spare held fuel 25 cs = some (d, ps)) :
    ∃ (x0 : Int) (x1 : ByteArray) (x2 : ByteArray) (x3 : ByteArray) (x4 : Bool) (x5 : Int), cs = [.int .i64 x0, .string x1, .string x2, .string x3, .bool x4, .int .i64 x5] ∧ (Lit.int .i64 x0).wf = true ∧ (Lit.int .i64 x5).wf = true ∧ (∀ B, (∀ n ∈ d.weights Tryd.prog 25, n ≤ B) → x1.size ≤ B ∧ x2.size ≤ B ∧ x3.size ≤ B) := by
  obtain ⟨xs, n, _, hx, hl, hlen, hf⟩ := DataW.trod_struct Tryd.underlying25 h
  simp only [Prod.mk.injEq] at hx
  obtain ⟨hd, _⟩ := hx
  match xs, hlen with
  | [y0, y1, y2, y3, y4, y5], _ =>
  have hC : Tryd.prog.cellsOf 25 = 6 := by kernel_rfl
  rw [hC] at hl
  match cs, hl with
  | [u0, u1, u2, u3, u4, u5], _ =>
  have g0 : DataW.trod enc Tryd.prog w base spare held n 3 [u0] = some (y0.1, y0.2) := by
    have hc : Tryd.prog.cellsOf 3 = 1 := by kernel_rfl
    have z := hf 0 _ rfl
    simpa [hc] using z
  obtain ⟨z0, e0, _, w0⟩ := DataW.trod_int Tryd.underlying3 g0
  simp only [List.cons.injEq, and_true] at e0
  subst e0
  have g1 : DataW.trod enc Tryd.prog w base spare held n 9 [u1] = some (y1.1, y1.2) := by
    have hc : Tryd.prog.cellsOf 9 = 1 := by kernel_rfl
    have z := hf 1 _ rfl
    simpa [hc] using z
  obtain ⟨z1, e1, v1, _⟩ := DataW.trod_string Tryd.underlying9 g1
  simp only [List.cons.injEq, and_true] at e1
  subst e1
  simp only [Prod.mk.injEq] at v1
  have g2 : DataW.trod enc Tryd.prog w base spare held n 9 [u2] = some (y2.1, y2.2) := by
    have hc : Tryd.prog.cellsOf 9 = 1 := by kernel_rfl
    have z := hf 2 _ rfl
    simpa [hc] using z
  obtain ⟨z2, e2, v2, _⟩ := DataW.trod_string Tryd.underlying9 g2
  simp only [List.cons.injEq, and_true] at e2
  subst e2
  simp only [Prod.mk.injEq] at v2
  have g3 : DataW.trod enc Tryd.prog w base spare held n 9 [u3] = some (y3.1, y3.2) := by
    have hc : Tryd.prog.cellsOf 9 = 1 := by kernel_rfl
    have z := hf 3 _ rfl
    simpa [hc] using z
  obtain ⟨z3, e3, v3, _⟩ := DataW.trod_string Tryd.underlying9 g3
  simp only [List.cons.injEq, and_true] at e3
  subst e3
  simp only [Prod.mk.injEq] at v3
  have g4 : DataW.trod enc Tryd.prog w base spare held n 4 [u4] = some (y4.1, y4.2) := by
    have hc : Tryd.prog.cellsOf 4 = 1 := by kernel_rfl
    have z := hf 4 _ rfl
    simpa [hc] using z
  obtain ⟨z4, e4, _⟩ := DataW.trod_bool Tryd.underlying4 g4
  simp only [List.cons.injEq, and_true] at e4
  subst e4
  have g5 : DataW.trod enc Tryd.prog w base spare held n 3 [u5] = some (y5.1, y5.2) := by
    have hc : Tryd.prog.cellsOf 3 = 1 := by kernel_rfl
    have z := hf 5 _ rfl
    simpa [hc] using z
  obtain ⟨z5, e5, _, w5⟩ := DataW.trod_int Tryd.underlying3 g5
  simp only [List.cons.injEq, and_true] at e5
  subst e5
  have hw : ∀ B, (∀ n ∈ d.weights Tryd.prog 25, n ≤ B) → (∀ n ∈ y0.1.weights Tryd.prog 3, n ≤ B) ∧ (∀ n ∈ y1.1.weights Tryd.prog 9, n ≤ B) ∧ (∀ n ∈ y2.1.weights Tryd.prog 9, n ≤ B) ∧ (∀ n ∈ y3.1.weights Tryd.prog 9, n ≤ B) ∧ (∀ n ∈ y4.1.weights Tryd.prog 4, n ≤ B) ∧ (∀ n ∈ y5.1.weights Tryd.prog 3, n ≤ B) := by
    intro B hB
    rw [hd] at hB
    simp only [DataW.weights, Tryd.underlying25, List.map_cons, List.map_nil, DataW.weightsEach, List.mem_append, List.append_nil] at hB
    refine ⟨fun n hn => hB n (by simp [hn]), fun n hn => hB n (by simp [hn]), fun n hn => hB n (by simp [hn]), fun n hn => hB n (by simp [hn]), fun n hn => hB n (by simp [hn]), fun n hn => hB n (by simp [hn])⟩
  exact ⟨z0, z1, z2, z3, z4, z5, rfl, w0, w5, fun B hB => ⟨by have q := (hw B hB).2.1; rw [v1.1] at q; have q2 := q _ (List.mem_singleton.mpr rfl); rwa [Array.length_toList] at q2, by have q := (hw B hB).2.2.1; rw [v2.1] at q; have q2 := q _ (List.mem_singleton.mpr rfl); rwa [Array.length_toList] at q2, by have q := (hw B hB).2.2.2.1; rw [v3.1] at q; have q2 := q _ (List.mem_singleton.mpr rfl); rwa [Array.length_toList] at q2⟩⟩
set_option maxRecDepth 100000 in
theorem rd27 {H : Type} {enc : TypeId × Value → H} {w : World} {base : Nat} {spare : Nat → Bool} {held : Bool} {fuel : Nat} {cs : List Value} {d : DataW H} {ps : List MemPlace}
    (h : DataW.trod enc Tryd.prog w base spare held fuel 27 cs = some (d, ps)) :
    ∃ (x0 : Int) (x1 : ByteArray) (x2 : ByteArray) (x3 : ByteArray) (x4 : Bool) (x5 : Int) (x6 : Int) (x7 : Bool) (x8 : Int) (x9 : Int) (x10 : Int) (x11 : Int), cs = [.int .i64 x0, .string x1, .string x2, .string x3, .bool x4, .int .i64 x5, .int .i64 x6, .bool x7, .int .i64 x8, .int .i64 x9, .int .i64 x10, .int .i64 x11] ∧ (Lit.int .i64 x0).wf = true ∧ (Lit.int .i64 x5).wf = true ∧ (Lit.int .i64 x6).wf = true ∧ (Lit.int .i64 x8).wf = true ∧ (Lit.int .i64 x9).wf = true ∧ (Lit.int .i64 x10).wf = true ∧ (Lit.int .i64 x11).wf = true ∧ (∀ B, (∀ n ∈ d.weights Tryd.prog 27, n ≤ B) → x1.size ≤ B ∧ x2.size ≤ B ∧ x3.size ≤ B) := by
  obtain ⟨xs, n, _, hx, hl, hlen, hf⟩ := DataW.trod_struct Tryd.underlying27 h
  simp only [Prod.mk.injEq] at hx
  obtain ⟨hd, _⟩ := hx
  match xs, hlen with
  | [y0, y1, y2, y3, y4, y5, y6], _ =>
  have hC : Tryd.prog.cellsOf 27 = 12 := by kernel_rfl
  rw [hC] at hl
  match cs, hl with
  | [u0, u1, u2, u3, u4, u5, u6, u7, u8, u9, u10, u11], _ =>
  have g0 : DataW.trod enc Tryd.prog w base spare held n 25 [u0, u1, u2, u3, u4, u5] = some (y0.1, y0.2) := by
    have hc : Tryd.prog.cellsOf 25 = 6 := by kernel_rfl
    have z := hf 0 _ rfl
    simpa [hc] using z
  obtain ⟨z0, z1, z2, z3, z4, z5, e0, w0_0, w0_1, w0_2⟩ := rd25 g0
  simp only [List.cons.injEq, and_true] at e0
  obtain ⟨rfl, rfl, rfl, rfl, rfl, rfl⟩ := e0
  have g1 : DataW.trod enc Tryd.prog w base spare held n 3 [u6] = some (y1.1, y1.2) := by
    have hc : Tryd.prog.cellsOf 3 = 1 := by kernel_rfl
    have z := hf 1 _ rfl
    simpa [hc] using z
  obtain ⟨z6, e1, _, w1⟩ := DataW.trod_int Tryd.underlying3 g1
  simp only [List.cons.injEq, and_true] at e1
  subst e1
  have g2 : DataW.trod enc Tryd.prog w base spare held n 4 [u7] = some (y2.1, y2.2) := by
    have hc : Tryd.prog.cellsOf 4 = 1 := by kernel_rfl
    have z := hf 2 _ rfl
    simpa [hc] using z
  obtain ⟨z7, e2, _⟩ := DataW.trod_bool Tryd.underlying4 g2
  simp only [List.cons.injEq, and_true] at e2
  subst e2
  have g3 : DataW.trod enc Tryd.prog w base spare held n 3 [u8] = some (y3.1, y3.2) := by
    have hc : Tryd.prog.cellsOf 3 = 1 := by kernel_rfl
    have z := hf 3 _ rfl
    simpa [hc] using z
  obtain ⟨z8, e3, _, w3⟩ := DataW.trod_int Tryd.underlying3 g3
  simp only [List.cons.injEq, and_true] at e3
  subst e3
  have g4 : DataW.trod enc Tryd.prog w base spare held n 3 [u9] = some (y4.1, y4.2) := by
    have hc : Tryd.prog.cellsOf 3 = 1 := by kernel_rfl
    have z := hf 4 _ rfl
    simpa [hc] using z
  obtain ⟨z9, e4, _, w4⟩ := DataW.trod_int Tryd.underlying3 g4
  simp only [List.cons.injEq, and_true] at e4
  subst e4
  have g5 : DataW.trod enc Tryd.prog w base spare held n 3 [u10] = some (y5.1, y5.2) := by
    have hc : Tryd.prog.cellsOf 3 = 1 := by kernel_rfl
    have z := hf 5 _ rfl
    simpa [hc] using z
  obtain ⟨z10, e5, _, w5⟩ := DataW.trod_int Tryd.underlying3 g5
  simp only [List.cons.injEq, and_true] at e5
  subst e5
  have g6 : DataW.trod enc Tryd.prog w base spare held n 3 [u11] = some (y6.1, y6.2) := by
    have hc : Tryd.prog.cellsOf 3 = 1 := by kernel_rfl
    have z := hf 6 _ rfl
    simpa [hc] using z
  obtain ⟨z11, e6, _, w6⟩ := DataW.trod_int Tryd.underlying3 g6
  simp only [List.cons.injEq, and_true] at e6
  subst e6
  have hw : ∀ B, (∀ n ∈ d.weights Tryd.prog 27, n ≤ B) → (∀ n ∈ y0.1.weights Tryd.prog 25, n ≤ B) ∧ (∀ n ∈ y1.1.weights Tryd.prog 3, n ≤ B) ∧ (∀ n ∈ y2.1.weights Tryd.prog 4, n ≤ B) ∧ (∀ n ∈ y3.1.weights Tryd.prog 3, n ≤ B) ∧ (∀ n ∈ y4.1.weights Tryd.prog 3, n ≤ B) ∧ (∀ n ∈ y5.1.weights Tryd.prog 3, n ≤ B) ∧ (∀ n ∈ y6.1.weights Tryd.prog 3, n ≤ B) := by
    intro B hB
    rw [hd] at hB
    simp only [DataW.weights, Tryd.underlying27, List.map_cons, List.map_nil, DataW.weightsEach, List.mem_append, List.append_nil] at hB
    refine ⟨fun n hn => hB n (by simp [hn]), fun n hn => hB n (by simp [hn]), fun n hn => hB n (by simp [hn]), fun n hn => hB n (by simp [hn]), fun n hn => hB n (by simp [hn]), fun n hn => hB n (by simp [hn]), fun n hn => hB n (by simp [hn])⟩
  exact ⟨z0, z1, z2, z3, z4, z5, z6, z7, z8, z9, z10, z11, rfl, w0_0, w0_1, w1, w3, w4, w5, w6, fun B hB => ⟨(w0_2 B ((hw B hB).1)).1, (w0_2 B ((hw B hB).1)).2.1, (w0_2 B ((hw B hB).1)).2.2⟩⟩
set_option maxRecDepth 100000 in
theorem rd40 {H : Type} {enc : TypeId × Value → H} {w : World} {base : Nat} {spare : Nat → Bool} {held : Bool} {fuel : Nat} {cs : List Value} {d : DataW H} {ps : List MemPlace}
    (h : DataW.trod enc Tryd.prog w base spare held fuel 40 cs = some (d, ps)) :
    ∃ (x0 : Int) (x1 : Int) (x2 : Int) (x3 : Int) (x4 : Int) (x5 : Int) (x6 : Bool) (x7 : Int) (x8 : Int) (x9 : ByteArray) (x10 : ByteArray) (x11 : ByteArray) (x12 : Bool) (x13 : Int) (x14 : Int) (x15 : Bool) (x16 : Int) (x17 : Int) (x18 : Int) (x19 : Int), cs = [.int .i64 x0, .int .i64 x1, .int .i64 x2, .int .i64 x3, .int .i64 x4, .int .i64 x5, .bool x6, .int .u64 x7, .int .i64 x8, .string x9, .string x10, .string x11, .bool x12, .int .i64 x13, .int .i64 x14, .bool x15, .int .i64 x16, .int .i64 x17, .int .i64 x18, .int .i64 x19] ∧ (Lit.int .i64 x0).wf = true ∧ (Lit.int .i64 x1).wf = true ∧ (Lit.int .i64 x2).wf = true ∧ (Lit.int .i64 x3).wf = true ∧ (Lit.int .i64 x4).wf = true ∧ (Lit.int .i64 x5).wf = true ∧ (Lit.int .u64 x7).wf = true ∧ (Lit.int .i64 x8).wf = true ∧ (Lit.int .i64 x13).wf = true ∧ (Lit.int .i64 x14).wf = true ∧ (Lit.int .i64 x16).wf = true ∧ (Lit.int .i64 x17).wf = true ∧ (Lit.int .i64 x18).wf = true ∧ (Lit.int .i64 x19).wf = true ∧ (∀ B, (∀ n ∈ d.weights Tryd.prog 40, n ≤ B) → x9.size ≤ B ∧ x10.size ≤ B ∧ x11.size ≤ B) := by
  obtain ⟨xs, n, _, hx, hl, hlen, hf⟩ := DataW.trod_struct Tryd.underlying40 h
  simp only [Prod.mk.injEq] at hx
  obtain ⟨hd, _⟩ := hx
  match xs, hlen with
  | [y0, y1, y2, y3, y4, y5, y6, y7, y8], _ =>
  have hC : Tryd.prog.cellsOf 40 = 20 := by kernel_rfl
  rw [hC] at hl
  match cs, hl with
  | [u0, u1, u2, u3, u4, u5, u6, u7, u8, u9, u10, u11, u12, u13, u14, u15, u16, u17, u18, u19], _ =>
  have g0 : DataW.trod enc Tryd.prog w base spare held n 3 [u0] = some (y0.1, y0.2) := by
    have hc : Tryd.prog.cellsOf 3 = 1 := by kernel_rfl
    have z := hf 0 _ rfl
    simpa [hc] using z
  obtain ⟨z0, e0, _, w0⟩ := DataW.trod_int Tryd.underlying3 g0
  simp only [List.cons.injEq, and_true] at e0
  subst e0
  have g1 : DataW.trod enc Tryd.prog w base spare held n 3 [u1] = some (y1.1, y1.2) := by
    have hc : Tryd.prog.cellsOf 3 = 1 := by kernel_rfl
    have z := hf 1 _ rfl
    simpa [hc] using z
  obtain ⟨z1, e1, _, w1⟩ := DataW.trod_int Tryd.underlying3 g1
  simp only [List.cons.injEq, and_true] at e1
  subst e1
  have g2 : DataW.trod enc Tryd.prog w base spare held n 3 [u2] = some (y2.1, y2.2) := by
    have hc : Tryd.prog.cellsOf 3 = 1 := by kernel_rfl
    have z := hf 2 _ rfl
    simpa [hc] using z
  obtain ⟨z2, e2, _, w2⟩ := DataW.trod_int Tryd.underlying3 g2
  simp only [List.cons.injEq, and_true] at e2
  subst e2
  have g3 : DataW.trod enc Tryd.prog w base spare held n 3 [u3] = some (y3.1, y3.2) := by
    have hc : Tryd.prog.cellsOf 3 = 1 := by kernel_rfl
    have z := hf 3 _ rfl
    simpa [hc] using z
  obtain ⟨z3, e3, _, w3⟩ := DataW.trod_int Tryd.underlying3 g3
  simp only [List.cons.injEq, and_true] at e3
  subst e3
  have g4 : DataW.trod enc Tryd.prog w base spare held n 3 [u4] = some (y4.1, y4.2) := by
    have hc : Tryd.prog.cellsOf 3 = 1 := by kernel_rfl
    have z := hf 4 _ rfl
    simpa [hc] using z
  obtain ⟨z4, e4, _, w4⟩ := DataW.trod_int Tryd.underlying3 g4
  simp only [List.cons.injEq, and_true] at e4
  subst e4
  have g5 : DataW.trod enc Tryd.prog w base spare held n 3 [u5] = some (y5.1, y5.2) := by
    have hc : Tryd.prog.cellsOf 3 = 1 := by kernel_rfl
    have z := hf 5 _ rfl
    simpa [hc] using z
  obtain ⟨z5, e5, _, w5⟩ := DataW.trod_int Tryd.underlying3 g5
  simp only [List.cons.injEq, and_true] at e5
  subst e5
  have g6 : DataW.trod enc Tryd.prog w base spare held n 4 [u6] = some (y6.1, y6.2) := by
    have hc : Tryd.prog.cellsOf 4 = 1 := by kernel_rfl
    have z := hf 6 _ rfl
    simpa [hc] using z
  obtain ⟨z6, e6, _⟩ := DataW.trod_bool Tryd.underlying4 g6
  simp only [List.cons.injEq, and_true] at e6
  subst e6
  have g7 : DataW.trod enc Tryd.prog w base spare held n 37 [u7] = some (y7.1, y7.2) := by
    have hc : Tryd.prog.cellsOf 37 = 1 := by kernel_rfl
    have z := hf 7 _ rfl
    simpa [hc] using z
  obtain ⟨z7, e7, _, w7⟩ := DataW.trod_int Tryd.underlying37 g7
  simp only [List.cons.injEq, and_true] at e7
  subst e7
  have g8 : DataW.trod enc Tryd.prog w base spare held n 27 [u8, u9, u10, u11, u12, u13, u14, u15, u16, u17, u18, u19] = some (y8.1, y8.2) := by
    have hc : Tryd.prog.cellsOf 27 = 12 := by kernel_rfl
    have z := hf 8 _ rfl
    simpa [hc] using z
  obtain ⟨z8, z9, z10, z11, z12, z13, z14, z15, z16, z17, z18, z19, e8, w8_0, w8_1, w8_2, w8_3, w8_4, w8_5, w8_6, w8_7⟩ := rd27 g8
  simp only [List.cons.injEq, and_true] at e8
  obtain ⟨rfl, rfl, rfl, rfl, rfl, rfl, rfl, rfl, rfl, rfl, rfl, rfl⟩ := e8
  have hw : ∀ B, (∀ n ∈ d.weights Tryd.prog 40, n ≤ B) → (∀ n ∈ y0.1.weights Tryd.prog 3, n ≤ B) ∧ (∀ n ∈ y1.1.weights Tryd.prog 3, n ≤ B) ∧ (∀ n ∈ y2.1.weights Tryd.prog 3, n ≤ B) ∧ (∀ n ∈ y3.1.weights Tryd.prog 3, n ≤ B) ∧ (∀ n ∈ y4.1.weights Tryd.prog 3, n ≤ B) ∧ (∀ n ∈ y5.1.weights Tryd.prog 3, n ≤ B) ∧ (∀ n ∈ y6.1.weights Tryd.prog 4, n ≤ B) ∧ (∀ n ∈ y7.1.weights Tryd.prog 37, n ≤ B) ∧ (∀ n ∈ y8.1.weights Tryd.prog 27, n ≤ B) := by
    intro B hB
    rw [hd] at hB
    simp only [DataW.weights, Tryd.underlying40, List.map_cons, List.map_nil, DataW.weightsEach, List.mem_append, List.append_nil] at hB
    refine ⟨fun n hn => hB n (by simp [hn]), fun n hn => hB n (by simp [hn]), fun n hn => hB n (by simp [hn]), fun n hn => hB n (by simp [hn]), fun n hn => hB n (by simp [hn]), fun n hn => hB n (by simp [hn]), fun n hn => hB n (by simp [hn]), fun n hn => hB n (by simp [hn]), fun n hn => hB n (by simp [hn])⟩
  exact ⟨z0, z1, z2, z3, z4, z5, z6, z7, z8, z9, z10, z11, z12, z13, z14, z15, z16, z17, z18, z19, rfl, w0, w1, w2, w3, w4, w5, w7, w8_0, w8_1, w8_2, w8_3, w8_4, w8_5, w8_6, fun B hB => ⟨(w8_7 B ((hw B hB).2.2.2.2.2.2.2.2)).1, (w8_7 B ((hw B hB).2.2.2.2.2.2.2.2)).2.1, (w8_7 B ((hw B hB).2.2.2.2.2.2.2.2)).2.2⟩⟩
end Go.Proofs.YtkmnpnbfeiobiaaDoor.Reads
