/- The law SpdNil. -/
import Derived.Test.YtdpfopeofeofcaaSpI
namespace Go.Proofs.Ytdpfopeofeofcaa.Sp
open Go.RowKit Go.Proofs.YtdpfopeofeofcaaW.PrintWords Go.Proofs.YtdpfopeofeofcaaW.PrintLast Go.Proofs.YtdpfopeofeofcaaW.PrintMore Go.Proofs.Ytdpfopeofeofcaa.QSp
open Go.Proofs.Ytdpfopeofeofcaa
set_option linter.unusedVariables false
set_option linter.unusedSimpArgs false
theorem isz24 : (Try.prog.info? 24).map (·.size) = some 5 := by kernel_rfl
set_option maxHeartbeats 1600000 in
set_option maxRecDepth 100000 in
theorem nil_aux (i : Int) (CS FS : Array Value) (w : World) (AN : Aside0 (∀ W : World, Calls Try.prog 10 #[.pointer none, .int .i64 i, .agg CS] W fun e w' => e = .returned (.int .i64 3) ∧ Below W.heap.size W w')) (FN : Aside0 (∀ W : World, Calls Try.prog 12 #[.pointer none, .agg FS, .bool true] W fun e w' => e = .returned (.tuple #[.int .i64 0, .int .i64 3]) ∧ Below W.heap.size W w'))
    (HC : Aside0 (CS.size = 16)) (HF : Aside0 (FS.size = 5)) :
    Calls Try.prog 5 #[.int .i64 i, .agg CS, .agg FS] w fun e w' => e = .returned (.bool true) ∧ Below w.heap.size w w' := by
  have LC := Aside0.mk fun (W : World) (g : Nat) (hb : W.heap[g]? = some (.cells CS 35 (0, 0))) => run_loadVar_row (P := Try.prog) W g 35 35 CS (0, 0) _ hb Try.underlying35 rfl (by rw [HC.out]; exact isz35)
  have LF := Aside0.mk fun (W : World) (g : Nat) (hb : W.heap[g]? = some (.cells FS 24 (0, 0))) => run_loadVar_row (P := Try.prog) W g 24 24 FS (0, 0) _ hb Try.underlying24 rfl (by rw [HF.out]; exact isz24)
  go_enter Try.func5, Try.ntmps5
  go_wp2_with (first | ((with_reducible refine gate_dst (N := 4) rfl ?_); refine box_event ?hg (N := 4) ?hd (cs := CS) (t := 35) ?hr ?_; (case hd => rfl); (case hg => rfl); (case hr => first | (go_simp; done) | (go_simp; rfl)); intro q4 hq w1 hbox hb; have BKq4 := Aside0.mk hbox; have HQq4 := Aside0.mk (show w.heap.size ≤ q4 from by rw [hq]; exact Nat.le_refl _); have HB1 := Aside0.mk hb; clear hbox hb hq) | ((with_reducible refine gate_dst (N := 5) rfl ?_); refine box_event ?hg (N := 5) ?hd (cs := FS) (t := 24) ?hr ?_; (case hd => rfl); (case hg => rfl); (case hr => first | (go_simp; done) | (go_simp; rfl)); intro q5 hq w2 hbox hb; have HNq4q5 := Aside0.mk (show q4 ≠ q5 from by have := blk_lt BKq4.out; omega); have BKq4 := Aside0.mk (blk_below BKq4.out hb); have BKq5 := Aside0.mk hbox; have HQq5 := Aside0.mk (show w.heap.size ≤ q5 from by rw [hq]; exact HB1.out.size); have HB2 := Aside0.mk (HB1.out.trans (hb.mono HB1.out.size)); clear hbox hb hq; have LD1 := LF.out w2 q5 BKq5.out) | ((with_reducible refine gate_dst (N := 13) rfl ?_); refine Kd.event_run (v := .agg FS) (w1 := w2) ?hg (load_run 24 (.tmp 5) q5 FS ?ho ?hx LD1) ?_; (case hg => rfl); (case ho => rfl); (case hx => rfl); clear LD1))
  refine (FN.out _).mono ?_
  rintro e w3 ⟨rfl, hb⟩
  have BKq4 := Aside0.mk (blk_below BKq4.out hb)
  have HB3 := Aside0.mk (HB2.out.trans (hb.mono HB2.out.size))
  have LD2 := LC.out w3 q4 BKq4.out
  clear hb
  go_wp2_with (first | ((with_reducible refine gate_dst (N := 19) rfl ?_); refine Kd.event_run (v := .agg CS) (w1 := w3) ?hg (load_run 35 (.tmp 4) q4 CS ?ho ?hx LD2) ?_; (case hg => rfl); (case ho => rfl); (case hx => rfl); clear LD2))
  refine (AN.out _).mono ?_
  rintro e w4 ⟨rfl, hb⟩
  have HB4 := Aside0.mk (HB3.out.trans (hb.mono HB3.out.size))
  clear hb
  go_wp2_with (fail)
  refine (awake_walk _).mono ?_
  rintro e w5 ⟨rfl, hb⟩
  have HB5 := Aside0.mk (HB4.out.trans (hb.mono HB4.out.size))
  clear hb
  go_wp2_with (fail)
  refine (rem_nil i _).mono ?_
  rintro e w6 ⟨rfl, hb⟩
  have HB6 := Aside0.mk (HB5.out.trans (hb.mono HB5.out.size))
  clear hb
  go_wp2_with (fail)
  refine (list_nil _).mono ?_
  rintro e w7 ⟨rfl, hb⟩
  have HB7 := Aside0.mk (HB6.out.trans (hb.mono HB6.out.size))
  clear hb
  go_wp2_with (fail)
  go_ret
  exact ⟨rfl, HB7.out⟩
theorem nil_law (i : Int) (r0 : Int) (r1 : ByteArray) (r2 : ByteArray) (r3 : ByteArray) (r4 : ByteArray) (r5 : Int) (r6 : Int) (r7 : Int) (r8 : Int) (r9 : Int) (r10 : Bool) (r11 : Bool) (r12 : Int) (r13 : Bool) (r14 : ByteArray) (r15 : ByteArray) (f0 : ByteArray) (f1 : ByteArray) (f2 : Int) (f3 : Int) (f4 : Int) (w : World) (hi : (Lit.int .i64 i).wf = true) (h0 : (Lit.int .i64 r0).wf = true) (h5 : (Lit.int .i64 r5).wf = true) (h6 : (Lit.int .i64 r6).wf = true) (h7 : (Lit.int .i64 r7).wf = true) (h8 : (Lit.int .i64 r8).wf = true) (h9 : (Lit.int .i64 r9).wf = true) (h12 : (Lit.int .i64 r12).wf = true) (hr : r1.size ≤ 140737488351232 ∧ r2.size ≤ 140737488351232 ∧ r3.size ≤ 140737488351232 ∧ r4.size ≤ 140737488351232 ∧ r14.size ≤ 140737488351232 ∧ r15.size ≤ 140737488351232) (k2 : (Lit.int .i64 f2).wf = true) (k3 : (Lit.int .i64 f3).wf = true) (k4 : (Lit.int .i64 f4).wf = true) (hf : f0.size ≤ 140737488351232 ∧ f1.size ≤ 140737488351232) :
    Calls Try.prog 5 #[.int .i64 i, .agg #[.int .i64 r0, .string r1, .string r2, .string r3, .string r4, .int .i64 r5, .int .i64 r6, .int .i64 r7, .int .i64 r8, .int .i64 r9, .bool r10, .bool r11, .int .i64 r12, .bool r13, .string r14, .string r15], .agg #[.string f0, .string f1, .int .i64 f2, .int .i64 f3, .int .i64 f4]] w fun e w' => e = .returned (.bool true) ∧ Below w.heap.size w w' :=
  nil_aux i #[.int .i64 r0, .string r1, .string r2, .string r3, .string r4, .int .i64 r5, .int .i64 r6, .int .i64 r7, .int .i64 r8, .int .i64 r9, .bool r10, .bool r11, .int .i64 r12, .bool r13, .string r14, .string r15] #[.string f0, .string f1, .int .i64 f2, .int .i64 f3, .int .i64 f4] w ⟨fun W => add_nil i ⟨r0, ⟨⟨r1, r2⟩, ⟨r3, r4⟩, r5, ⟨r6, r7⟩, ⟨r8, r9⟩⟩, r10, r11, r12, r13, r14, r15⟩ W⟩ ⟨fun W => find_nil ⟨f0, f1, f2, f3, f4⟩ true W⟩ ⟨rfl⟩ ⟨rfl⟩
end Go.Proofs.Ytdpfopeofeofcaa.Sp
