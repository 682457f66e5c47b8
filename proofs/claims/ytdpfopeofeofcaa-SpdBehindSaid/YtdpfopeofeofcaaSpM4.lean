/- Find's closure; slices.IndexFunc. Find. What stays beside a policy; awake. (Texts of this session, put together by wip/tools/merge.py.) -/
import Derived.Test.YtdpfopeofeofcaaSpM3
import Derived.Deep.Slices
import Derived.Test.YtdpfopeofeofcaaQSpx32
namespace Go.Proofs.Ytdpfopeofeofcaa.Sp
open Go.RowKit Go.Proofs.YtdpfopeofeofcaaW.PrintWords Go.Proofs.YtdpfopeofeofcaaW.PrintLast Go.Proofs.YtdpfopeofeofcaaW.PrintMore Go.Proofs.Ytdpfopeofeofcaa.QSp
open Go.Proofs.Ytdpfopeofeofcaa
set_option linter.unusedVariables false
set_option linter.unusedSimpArgs false
/-- A rule in a row, read whole. -/
theorem row35 {W : World} {A : Option Addr} {n : Nat} {xs : List S35} (h : Kd.C k35 W A n xs) (i : Nat) (hi : i < n) :
    ∃ ad, A = some ad ∧ (∀ j u, (enc35 (xs.getD i z35))[j]? = some u → W.cell? (ad.add (i * 16 + j)) = some u) ∧ (loadVar 35 (ad.add (i * 16))).run Try.prog W = .ok (.agg (enc35 (xs.getD i z35)).toArray) W := by
  obtain ⟨ad, c, e, _, hK, hc0⟩ := Kd.C_get h z35 (i : Int) (by omega) (by omega)
  rw [Int.toNat_natCast] at hK hc0
  have hc : ∀ j u, c[j]? = some u → W.cell? (ad.add (i * 16 + j)) = some u := hc0
  obtain rfl : c = enc35 (xs.getD i z35) := k35_open hK
  refine ⟨ad, e, hc, ?_⟩
  have hl := run_loadCells_list (P := Try.prog) W (ad.add (i * 16)) (enc35 (xs.getD i z35)) (fun j v hv => by rw [Deep.add_add]; exact hc j v hv)
  have hs : (enc35 (xs.getD i z35)).length = 16 := rfl
  rw [hs] at hl
  have hi35 := isz35
  cases hq : Try.prog.info? 35 with
  | none => rw [hq] at hi35; cases hi35
  | some inf =>
    have hs : inf.size = 16 := by rw [hq] at hi35; simpa using hi35
    have hagg : (isAgg 35).run Try.prog W = .ok true W := by
      unfold isAgg
      rw [Sem.run_bind, run_underlying Try.underlying35 W]
      rfl
    simp only [loadVar, Sem.run_bind, hagg, sizeOf, typeInfo, hq, hs, hl, Result.andThen_ok, if_true, Sem.run_pure]
    simp [hq, hs, hl]
theorem load_runA {P : Program} {o : Oper} {a : Act} {W : World} (ty : TypeId) (x : Operand) (ad : Addr) (cs : Array Value) (ho : o.op = .load ty x) (hx : a.eval x = .pointer (some ad)) (h : (loadVar ty ad).run P W = .ok (.agg cs) W) : (execOp a.eval o).run P W = .ok (.value (.agg cs)) W := by
  unfold execOp
  simp only [ho, hx, Instr.loadAt, Instr.sureAddr, Sem.run_bind, Sem.run_pure, Result.andThen_ok, h]
set_option maxHeartbeats 1600000 in
set_option maxRecDepth 100000 in
theorem hit_aux (nm : Int) (p : S33) (ou inn : Bool) (ac : Int) (tu : Bool) (se pe : ByteArray) (f : S24) (o : Bool) (b4 b5 : Nat) (w : World) (h4 : w.heap[b4]? = some (.cells #[.string f.f0, .string f.f1, .int .i64 f.f2, .int .i64 f.f3, .int .i64 f.f4] 24 (0, 0))) (h5 : w.heap[b5]? = some (.cells #[.bool o] 4 (0, 0))) :
    Calls Try.prog 21 #[.agg #[.int .i64 nm, .string p.f0.f0, .string p.f0.f1, .string p.f1.f0, .string p.f1.f1, .int .i64 p.f2, .int .i64 p.f3.f0, .int .i64 p.f3.f1, .int .i64 p.f4.f0, .int .i64 p.f4.f1, .bool ou, .bool inn, .int .i64 ac, .bool tu, .string se, .string pe], .pointer (some ⟨b5, 0, none⟩), .pointer (some ⟨b4, 0, none⟩)] w fun e w' => e = .returned (.bool ((o && ou || !o && inn) && matchE p f)) ∧ Below w.heap.size w w' := by
  have MW := Aside0.mk (show ∀ W : World, Calls Try.prog 13 #[.agg #[.string p.f0.f0, .string p.f0.f1, .string p.f1.f0, .string p.f1.f1, .int .i64 p.f2, .int .i64 p.f3.f0, .int .i64 p.f3.f1, .int .i64 p.f4.f0, .int .i64 p.f4.f1], .agg #[.string f.f0, .string f.f1, .int .i64 f.f2, .int .i64 f.f3, .int .i64 f.f4]] W fun e w' => e = .returned (.bool (matchE p f)) ∧ Below W.heap.size W w' from fun W => matches_walk p f W)
  obtain ⟨mb, hmb⟩ : ∃ mb, matchE p f = mb := ⟨_, rfl⟩
  rw [hmb] at MW ⊢
  clear hmb
  have H4 := Aside0.mk h4
  have H5 := Aside0.mk h5
  clear h4 h5
  obtain ⟨⟨p0, p1⟩, ⟨p2, p3⟩, p4, ⟨p5, p6⟩, p7, p8⟩ := p
  obtain ⟨f0, f1, f2, f3, f4⟩ := f
  dsimp only at H4 MW ⊢
  cases o <;> cases ou <;> cases inn
  · go_enter Try.func21, Try.ntmps21
    go_wp2_with (first | ((with_reducible refine gate_dst (N := 3) rfl ?_); refine box_event ?hg (N := 3) ?hd (cs := #[.int .i64 nm, .string p0, .string p1, .string p2, .string p3, .int .i64 p4, .int .i64 p5, .int .i64 p6, .int .i64 p7, .int .i64 p8, .bool false, .bool false, .int .i64 ac, .bool tu, .string se, .string pe]) (t := 35) ?hr ?_; (case hd => rfl); (case hg => rfl); (case hr => first | (go_simp; done) | (go_simp; rfl)); intro q1 hq w1 hbox hb; have BKq1 := Aside0.mk hbox; have HQq1 := Aside0.mk (show w.heap.size ≤ q1 from by rw [hq]; exact Nat.le_refl _); have HB1 := Aside0.mk hb; clear hbox hb hq; have z10 : w1.cell? ⟨q1, 10, none⟩ = some (.bool false) := (blk_cell BKq1.out 10).trans rfl; have z11 : w1.cell? ⟨q1, 11, none⟩ = some (.bool false) := (blk_cell BKq1.out 11).trans rfl; have BK5 := Aside0.mk (blk_below H5.out HB1.out); have BK4 := Aside0.mk (blk_below H4.out HB1.out); have c5 : w1.cell? ⟨b5, 0, none⟩ = some (.bool false) := (blk_cell BK5.out 0).trans rfl; have x0 : w1.cell? ⟨b4, 0, none⟩ = some (.string f0) := (blk_cell BK4.out 0).trans rfl; have x1 : w1.cell? ⟨b4, 1, none⟩ = some (.string f1) := (blk_cell BK4.out 1).trans rfl; have x2 : w1.cell? ⟨b4, 2, none⟩ = some (.int .i64 f2) := (blk_cell BK4.out 2).trans rfl; have x3 : w1.cell? ⟨b4, 3, none⟩ = some (.int .i64 f3) := (blk_cell BK4.out 3).trans rfl; have x4 : w1.cell? ⟨b4, 4, none⟩ = some (.int .i64 f4) := (blk_cell BK4.out 4).trans rfl))
    go_ret
    exact ⟨by simp, HB1.out⟩
  · go_enter Try.func21, Try.ntmps21
    go_wp2_with (first | ((with_reducible refine gate_dst (N := 3) rfl ?_); refine box_event ?hg (N := 3) ?hd (cs := #[.int .i64 nm, .string p0, .string p1, .string p2, .string p3, .int .i64 p4, .int .i64 p5, .int .i64 p6, .int .i64 p7, .int .i64 p8, .bool false, .bool true, .int .i64 ac, .bool tu, .string se, .string pe]) (t := 35) ?hr ?_; (case hd => rfl); (case hg => rfl); (case hr => first | (go_simp; done) | (go_simp; rfl)); intro q1 hq w1 hbox hb; have BKq1 := Aside0.mk hbox; have HQq1 := Aside0.mk (show w.heap.size ≤ q1 from by rw [hq]; exact Nat.le_refl _); have HB1 := Aside0.mk hb; clear hbox hb hq; have z1 : w1.cell? ⟨q1, 1, none⟩ = some (.string p0) := (blk_cell BKq1.out 1).trans rfl; have z2 : w1.cell? ⟨q1, 2, none⟩ = some (.string p1) := (blk_cell BKq1.out 2).trans rfl; have z3 : w1.cell? ⟨q1, 3, none⟩ = some (.string p2) := (blk_cell BKq1.out 3).trans rfl; have z4 : w1.cell? ⟨q1, 4, none⟩ = some (.string p3) := (blk_cell BKq1.out 4).trans rfl; have z5 : w1.cell? ⟨q1, 5, none⟩ = some (.int .i64 p4) := (blk_cell BKq1.out 5).trans rfl; have z6 : w1.cell? ⟨q1, 6, none⟩ = some (.int .i64 p5) := (blk_cell BKq1.out 6).trans rfl; have z7 : w1.cell? ⟨q1, 7, none⟩ = some (.int .i64 p6) := (blk_cell BKq1.out 7).trans rfl; have z8 : w1.cell? ⟨q1, 8, none⟩ = some (.int .i64 p7) := (blk_cell BKq1.out 8).trans rfl; have z9 : w1.cell? ⟨q1, 9, none⟩ = some (.int .i64 p8) := (blk_cell BKq1.out 9).trans rfl; have z10 : w1.cell? ⟨q1, 10, none⟩ = some (.bool false) := (blk_cell BKq1.out 10).trans rfl; have z11 : w1.cell? ⟨q1, 11, none⟩ = some (.bool true) := (blk_cell BKq1.out 11).trans rfl; have BK5 := Aside0.mk (blk_below H5.out HB1.out); have BK4 := Aside0.mk (blk_below H4.out HB1.out); have c5 : w1.cell? ⟨b5, 0, none⟩ = some (.bool false) := (blk_cell BK5.out 0).trans rfl; have x0 : w1.cell? ⟨b4, 0, none⟩ = some (.string f0) := (blk_cell BK4.out 0).trans rfl; have x1 : w1.cell? ⟨b4, 1, none⟩ = some (.string f1) := (blk_cell BK4.out 1).trans rfl; have x2 : w1.cell? ⟨b4, 2, none⟩ = some (.int .i64 f2) := (blk_cell BK4.out 2).trans rfl; have x3 : w1.cell? ⟨b4, 3, none⟩ = some (.int .i64 f3) := (blk_cell BK4.out 3).trans rfl; have x4 : w1.cell? ⟨b4, 4, none⟩ = some (.int .i64 f4) := (blk_cell BK4.out 4).trans rfl))
    refine (MW.out _).mono ?_
    rintro e w2 ⟨rfl, hb⟩
    have HB2 := Aside0.mk (HB1.out.trans (hb.mono HB1.out.size))
    clear hb
    go_wp2_with (fail)
    go_ret
    exact ⟨by simp, HB2.out⟩
  · go_enter Try.func21, Try.ntmps21
    go_wp2_with (first | ((with_reducible refine gate_dst (N := 3) rfl ?_); refine box_event ?hg (N := 3) ?hd (cs := #[.int .i64 nm, .string p0, .string p1, .string p2, .string p3, .int .i64 p4, .int .i64 p5, .int .i64 p6, .int .i64 p7, .int .i64 p8, .bool true, .bool false, .int .i64 ac, .bool tu, .string se, .string pe]) (t := 35) ?hr ?_; (case hd => rfl); (case hg => rfl); (case hr => first | (go_simp; done) | (go_simp; rfl)); intro q1 hq w1 hbox hb; have BKq1 := Aside0.mk hbox; have HQq1 := Aside0.mk (show w.heap.size ≤ q1 from by rw [hq]; exact Nat.le_refl _); have HB1 := Aside0.mk hb; clear hbox hb hq; have z10 : w1.cell? ⟨q1, 10, none⟩ = some (.bool true) := (blk_cell BKq1.out 10).trans rfl; have z11 : w1.cell? ⟨q1, 11, none⟩ = some (.bool false) := (blk_cell BKq1.out 11).trans rfl; have BK5 := Aside0.mk (blk_below H5.out HB1.out); have BK4 := Aside0.mk (blk_below H4.out HB1.out); have c5 : w1.cell? ⟨b5, 0, none⟩ = some (.bool false) := (blk_cell BK5.out 0).trans rfl; have x0 : w1.cell? ⟨b4, 0, none⟩ = some (.string f0) := (blk_cell BK4.out 0).trans rfl; have x1 : w1.cell? ⟨b4, 1, none⟩ = some (.string f1) := (blk_cell BK4.out 1).trans rfl; have x2 : w1.cell? ⟨b4, 2, none⟩ = some (.int .i64 f2) := (blk_cell BK4.out 2).trans rfl; have x3 : w1.cell? ⟨b4, 3, none⟩ = some (.int .i64 f3) := (blk_cell BK4.out 3).trans rfl; have x4 : w1.cell? ⟨b4, 4, none⟩ = some (.int .i64 f4) := (blk_cell BK4.out 4).trans rfl))
    go_ret
    exact ⟨by simp, HB1.out⟩
  · go_enter Try.func21, Try.ntmps21
    go_wp2_with (first | ((with_reducible refine gate_dst (N := 3) rfl ?_); refine box_event ?hg (N := 3) ?hd (cs := #[.int .i64 nm, .string p0, .string p1, .string p2, .string p3, .int .i64 p4, .int .i64 p5, .int .i64 p6, .int .i64 p7, .int .i64 p8, .bool true, .bool true, .int .i64 ac, .bool tu, .string se, .string pe]) (t := 35) ?hr ?_; (case hd => rfl); (case hg => rfl); (case hr => first | (go_simp; done) | (go_simp; rfl)); intro q1 hq w1 hbox hb; have BKq1 := Aside0.mk hbox; have HQq1 := Aside0.mk (show w.heap.size ≤ q1 from by rw [hq]; exact Nat.le_refl _); have HB1 := Aside0.mk hb; clear hbox hb hq; have z1 : w1.cell? ⟨q1, 1, none⟩ = some (.string p0) := (blk_cell BKq1.out 1).trans rfl; have z2 : w1.cell? ⟨q1, 2, none⟩ = some (.string p1) := (blk_cell BKq1.out 2).trans rfl; have z3 : w1.cell? ⟨q1, 3, none⟩ = some (.string p2) := (blk_cell BKq1.out 3).trans rfl; have z4 : w1.cell? ⟨q1, 4, none⟩ = some (.string p3) := (blk_cell BKq1.out 4).trans rfl; have z5 : w1.cell? ⟨q1, 5, none⟩ = some (.int .i64 p4) := (blk_cell BKq1.out 5).trans rfl; have z6 : w1.cell? ⟨q1, 6, none⟩ = some (.int .i64 p5) := (blk_cell BKq1.out 6).trans rfl; have z7 : w1.cell? ⟨q1, 7, none⟩ = some (.int .i64 p6) := (blk_cell BKq1.out 7).trans rfl; have z8 : w1.cell? ⟨q1, 8, none⟩ = some (.int .i64 p7) := (blk_cell BKq1.out 8).trans rfl; have z9 : w1.cell? ⟨q1, 9, none⟩ = some (.int .i64 p8) := (blk_cell BKq1.out 9).trans rfl; have z10 : w1.cell? ⟨q1, 10, none⟩ = some (.bool true) := (blk_cell BKq1.out 10).trans rfl; have z11 : w1.cell? ⟨q1, 11, none⟩ = some (.bool true) := (blk_cell BKq1.out 11).trans rfl; have BK5 := Aside0.mk (blk_below H5.out HB1.out); have BK4 := Aside0.mk (blk_below H4.out HB1.out); have c5 : w1.cell? ⟨b5, 0, none⟩ = some (.bool false) := (blk_cell BK5.out 0).trans rfl; have x0 : w1.cell? ⟨b4, 0, none⟩ = some (.string f0) := (blk_cell BK4.out 0).trans rfl; have x1 : w1.cell? ⟨b4, 1, none⟩ = some (.string f1) := (blk_cell BK4.out 1).trans rfl; have x2 : w1.cell? ⟨b4, 2, none⟩ = some (.int .i64 f2) := (blk_cell BK4.out 2).trans rfl; have x3 : w1.cell? ⟨b4, 3, none⟩ = some (.int .i64 f3) := (blk_cell BK4.out 3).trans rfl; have x4 : w1.cell? ⟨b4, 4, none⟩ = some (.int .i64 f4) := (blk_cell BK4.out 4).trans rfl))
    refine (MW.out _).mono ?_
    rintro e w2 ⟨rfl, hb⟩
    have HB2 := Aside0.mk (HB1.out.trans (hb.mono HB1.out.size))
    clear hb
    go_wp2_with (fail)
    go_ret
    exact ⟨by simp, HB2.out⟩
  · go_enter Try.func21, Try.ntmps21
    go_wp2_with (first | ((with_reducible refine gate_dst (N := 3) rfl ?_); refine box_event ?hg (N := 3) ?hd (cs := #[.int .i64 nm, .string p0, .string p1, .string p2, .string p3, .int .i64 p4, .int .i64 p5, .int .i64 p6, .int .i64 p7, .int .i64 p8, .bool false, .bool false, .int .i64 ac, .bool tu, .string se, .string pe]) (t := 35) ?hr ?_; (case hd => rfl); (case hg => rfl); (case hr => first | (go_simp; done) | (go_simp; rfl)); intro q1 hq w1 hbox hb; have BKq1 := Aside0.mk hbox; have HQq1 := Aside0.mk (show w.heap.size ≤ q1 from by rw [hq]; exact Nat.le_refl _); have HB1 := Aside0.mk hb; clear hbox hb hq; have z10 : w1.cell? ⟨q1, 10, none⟩ = some (.bool false) := (blk_cell BKq1.out 10).trans rfl; have z11 : w1.cell? ⟨q1, 11, none⟩ = some (.bool false) := (blk_cell BKq1.out 11).trans rfl; have BK5 := Aside0.mk (blk_below H5.out HB1.out); have BK4 := Aside0.mk (blk_below H4.out HB1.out); have c5 : w1.cell? ⟨b5, 0, none⟩ = some (.bool true) := (blk_cell BK5.out 0).trans rfl; have x0 : w1.cell? ⟨b4, 0, none⟩ = some (.string f0) := (blk_cell BK4.out 0).trans rfl; have x1 : w1.cell? ⟨b4, 1, none⟩ = some (.string f1) := (blk_cell BK4.out 1).trans rfl; have x2 : w1.cell? ⟨b4, 2, none⟩ = some (.int .i64 f2) := (blk_cell BK4.out 2).trans rfl; have x3 : w1.cell? ⟨b4, 3, none⟩ = some (.int .i64 f3) := (blk_cell BK4.out 3).trans rfl; have x4 : w1.cell? ⟨b4, 4, none⟩ = some (.int .i64 f4) := (blk_cell BK4.out 4).trans rfl))
    go_ret
    exact ⟨by simp, HB1.out⟩
  · go_enter Try.func21, Try.ntmps21
    go_wp2_with (first | ((with_reducible refine gate_dst (N := 3) rfl ?_); refine box_event ?hg (N := 3) ?hd (cs := #[.int .i64 nm, .string p0, .string p1, .string p2, .string p3, .int .i64 p4, .int .i64 p5, .int .i64 p6, .int .i64 p7, .int .i64 p8, .bool false, .bool true, .int .i64 ac, .bool tu, .string se, .string pe]) (t := 35) ?hr ?_; (case hd => rfl); (case hg => rfl); (case hr => first | (go_simp; done) | (go_simp; rfl)); intro q1 hq w1 hbox hb; have BKq1 := Aside0.mk hbox; have HQq1 := Aside0.mk (show w.heap.size ≤ q1 from by rw [hq]; exact Nat.le_refl _); have HB1 := Aside0.mk hb; clear hbox hb hq; have z10 : w1.cell? ⟨q1, 10, none⟩ = some (.bool false) := (blk_cell BKq1.out 10).trans rfl; have z11 : w1.cell? ⟨q1, 11, none⟩ = some (.bool true) := (blk_cell BKq1.out 11).trans rfl; have BK5 := Aside0.mk (blk_below H5.out HB1.out); have BK4 := Aside0.mk (blk_below H4.out HB1.out); have c5 : w1.cell? ⟨b5, 0, none⟩ = some (.bool true) := (blk_cell BK5.out 0).trans rfl; have x0 : w1.cell? ⟨b4, 0, none⟩ = some (.string f0) := (blk_cell BK4.out 0).trans rfl; have x1 : w1.cell? ⟨b4, 1, none⟩ = some (.string f1) := (blk_cell BK4.out 1).trans rfl; have x2 : w1.cell? ⟨b4, 2, none⟩ = some (.int .i64 f2) := (blk_cell BK4.out 2).trans rfl; have x3 : w1.cell? ⟨b4, 3, none⟩ = some (.int .i64 f3) := (blk_cell BK4.out 3).trans rfl; have x4 : w1.cell? ⟨b4, 4, none⟩ = some (.int .i64 f4) := (blk_cell BK4.out 4).trans rfl))
    go_ret
    exact ⟨by simp, HB1.out⟩
  · go_enter Try.func21, Try.ntmps21
    go_wp2_with (first | ((with_reducible refine gate_dst (N := 3) rfl ?_); refine box_event ?hg (N := 3) ?hd (cs := #[.int .i64 nm, .string p0, .string p1, .string p2, .string p3, .int .i64 p4, .int .i64 p5, .int .i64 p6, .int .i64 p7, .int .i64 p8, .bool true, .bool false, .int .i64 ac, .bool tu, .string se, .string pe]) (t := 35) ?hr ?_; (case hd => rfl); (case hg => rfl); (case hr => first | (go_simp; done) | (go_simp; rfl)); intro q1 hq w1 hbox hb; have BKq1 := Aside0.mk hbox; have HQq1 := Aside0.mk (show w.heap.size ≤ q1 from by rw [hq]; exact Nat.le_refl _); have HB1 := Aside0.mk hb; clear hbox hb hq; have z1 : w1.cell? ⟨q1, 1, none⟩ = some (.string p0) := (blk_cell BKq1.out 1).trans rfl; have z2 : w1.cell? ⟨q1, 2, none⟩ = some (.string p1) := (blk_cell BKq1.out 2).trans rfl; have z3 : w1.cell? ⟨q1, 3, none⟩ = some (.string p2) := (blk_cell BKq1.out 3).trans rfl; have z4 : w1.cell? ⟨q1, 4, none⟩ = some (.string p3) := (blk_cell BKq1.out 4).trans rfl; have z5 : w1.cell? ⟨q1, 5, none⟩ = some (.int .i64 p4) := (blk_cell BKq1.out 5).trans rfl; have z6 : w1.cell? ⟨q1, 6, none⟩ = some (.int .i64 p5) := (blk_cell BKq1.out 6).trans rfl; have z7 : w1.cell? ⟨q1, 7, none⟩ = some (.int .i64 p6) := (blk_cell BKq1.out 7).trans rfl; have z8 : w1.cell? ⟨q1, 8, none⟩ = some (.int .i64 p7) := (blk_cell BKq1.out 8).trans rfl; have z9 : w1.cell? ⟨q1, 9, none⟩ = some (.int .i64 p8) := (blk_cell BKq1.out 9).trans rfl; have z10 : w1.cell? ⟨q1, 10, none⟩ = some (.bool true) := (blk_cell BKq1.out 10).trans rfl; have z11 : w1.cell? ⟨q1, 11, none⟩ = some (.bool false) := (blk_cell BKq1.out 11).trans rfl; have BK5 := Aside0.mk (blk_below H5.out HB1.out); have BK4 := Aside0.mk (blk_below H4.out HB1.out); have c5 : w1.cell? ⟨b5, 0, none⟩ = some (.bool true) := (blk_cell BK5.out 0).trans rfl; have x0 : w1.cell? ⟨b4, 0, none⟩ = some (.string f0) := (blk_cell BK4.out 0).trans rfl; have x1 : w1.cell? ⟨b4, 1, none⟩ = some (.string f1) := (blk_cell BK4.out 1).trans rfl; have x2 : w1.cell? ⟨b4, 2, none⟩ = some (.int .i64 f2) := (blk_cell BK4.out 2).trans rfl; have x3 : w1.cell? ⟨b4, 3, none⟩ = some (.int .i64 f3) := (blk_cell BK4.out 3).trans rfl; have x4 : w1.cell? ⟨b4, 4, none⟩ = some (.int .i64 f4) := (blk_cell BK4.out 4).trans rfl))
    refine (MW.out _).mono ?_
    rintro e w2 ⟨rfl, hb⟩
    have HB2 := Aside0.mk (HB1.out.trans (hb.mono HB1.out.size))
    clear hb
    go_wp2_with (fail)
    go_ret
    exact ⟨by simp, HB2.out⟩
  · go_enter Try.func21, Try.ntmps21
    go_wp2_with (first | ((with_reducible refine gate_dst (N := 3) rfl ?_); refine box_event ?hg (N := 3) ?hd (cs := #[.int .i64 nm, .string p0, .string p1, .string p2, .string p3, .int .i64 p4, .int .i64 p5, .int .i64 p6, .int .i64 p7, .int .i64 p8, .bool true, .bool true, .int .i64 ac, .bool tu, .string se, .string pe]) (t := 35) ?hr ?_; (case hd => rfl); (case hg => rfl); (case hr => first | (go_simp; done) | (go_simp; rfl)); intro q1 hq w1 hbox hb; have BKq1 := Aside0.mk hbox; have HQq1 := Aside0.mk (show w.heap.size ≤ q1 from by rw [hq]; exact Nat.le_refl _); have HB1 := Aside0.mk hb; clear hbox hb hq; have z1 : w1.cell? ⟨q1, 1, none⟩ = some (.string p0) := (blk_cell BKq1.out 1).trans rfl; have z2 : w1.cell? ⟨q1, 2, none⟩ = some (.string p1) := (blk_cell BKq1.out 2).trans rfl; have z3 : w1.cell? ⟨q1, 3, none⟩ = some (.string p2) := (blk_cell BKq1.out 3).trans rfl; have z4 : w1.cell? ⟨q1, 4, none⟩ = some (.string p3) := (blk_cell BKq1.out 4).trans rfl; have z5 : w1.cell? ⟨q1, 5, none⟩ = some (.int .i64 p4) := (blk_cell BKq1.out 5).trans rfl; have z6 : w1.cell? ⟨q1, 6, none⟩ = some (.int .i64 p5) := (blk_cell BKq1.out 6).trans rfl; have z7 : w1.cell? ⟨q1, 7, none⟩ = some (.int .i64 p6) := (blk_cell BKq1.out 7).trans rfl; have z8 : w1.cell? ⟨q1, 8, none⟩ = some (.int .i64 p7) := (blk_cell BKq1.out 8).trans rfl; have z9 : w1.cell? ⟨q1, 9, none⟩ = some (.int .i64 p8) := (blk_cell BKq1.out 9).trans rfl; have z10 : w1.cell? ⟨q1, 10, none⟩ = some (.bool true) := (blk_cell BKq1.out 10).trans rfl; have z11 : w1.cell? ⟨q1, 11, none⟩ = some (.bool true) := (blk_cell BKq1.out 11).trans rfl; have BK5 := Aside0.mk (blk_below H5.out HB1.out); have BK4 := Aside0.mk (blk_below H4.out HB1.out); have c5 : w1.cell? ⟨b5, 0, none⟩ = some (.bool true) := (blk_cell BK5.out 0).trans rfl; have x0 : w1.cell? ⟨b4, 0, none⟩ = some (.string f0) := (blk_cell BK4.out 0).trans rfl; have x1 : w1.cell? ⟨b4, 1, none⟩ = some (.string f1) := (blk_cell BK4.out 1).trans rfl; have x2 : w1.cell? ⟨b4, 2, none⟩ = some (.int .i64 f2) := (blk_cell BK4.out 2).trans rfl; have x3 : w1.cell? ⟨b4, 3, none⟩ = some (.int .i64 f3) := (blk_cell BK4.out 3).trans rfl; have x4 : w1.cell? ⟨b4, 4, none⟩ = some (.int .i64 f4) := (blk_cell BK4.out 4).trans rfl))
    refine (MW.out _).mono ?_
    rintro e w2 ⟨rfl, hb⟩
    have HB2 := Aside0.mk (HB1.out.trans (hb.mono HB1.out.size))
    clear hb
    go_wp2_with (fail)
    go_ret
    exact ⟨by simp, HB2.out⟩
theorem hit_walk (r : S35) (f : S24) (o : Bool) (b4 b5 : Nat) (w : World) (h4 : w.heap[b4]? = some (.cells #[.string f.f0, .string f.f1, .int .i64 f.f2, .int .i64 f.f3, .int .i64 f.f4] 24 (0, 0))) (h5 : w.heap[b5]? = some (.cells #[.bool o] 4 (0, 0))) :
    Calls Try.prog 21 #[.agg (enc35 r).toArray, .pointer (some ⟨b5, 0, none⟩), .pointer (some ⟨b4, 0, none⟩)] w fun e w' => e = .returned (.bool (hitB f o r)) ∧ Below w.heap.size w w' :=
  hit_aux r.f0 r.f1 r.f2 r.f3 r.f4 r.f5 r.f6 r.f7 f o b4 b5 w h4 h5
/-- The closure as a value. -/
def fV (b5 b4 : Nat) : Value := .func (.func 21) #[] #[.pointer (some ⟨b5, 0, none⟩), .pointer (some ⟨b4, 0, none⟩)]
theorem idx_none {l : List S35} {f : S24} {o : Bool} (h : ∀ i, i < l.length → hitB f o (l.getD i z35) = false) : idxF l f o = -1 := by
  unfold idxF
  rw [if_neg]
  intro hlt
  have h1 := List.findIdx_getElem (w := hlt)
  have h2 := h _ hlt
  rw [List.getD_eq_getElem?_getD, List.getElem?_eq_getElem hlt] at h2
  simp only [Option.getD_some] at h2
  rw [h2] at h1
  cases h1
theorem idx_some {l : List S35} {f : S24} {o : Bool} {i : Nat} (hi : i < l.length) (h : ∀ j, j < i → hitB f o (l.getD j z35) = false) (h1 : hitB f o (l.getD i z35) = true) : idxF l f o = (i : Int) := by
  have e : l.findIdx (hitB f o) = i := by
    rw [List.findIdx_eq hi]
    refine ⟨?_, fun j hj => ?_⟩
    · rw [List.getD_eq_getElem?_getD, List.getElem?_eq_getElem hi] at h1
      exact h1
    · have h2 := h j hj
      rw [List.getD_eq_getElem?_getD, List.getElem?_eq_getElem (Nat.lt_trans hj hi)] at h2
      exact h2
  unfold idxF
  rw [e, if_pos hi]
set_option maxHeartbeats 1600000 in
set_option maxRecDepth 100000 in
theorem index_walk (A : Option Addr) (c : Nat) (l : List S35) (f : S24) (o : Bool) (b4 b5 : Nat) (w : World) (hr : Kd.C k35 w A l.length l) (hl : l.length ≤ 1000) (h4 : w.heap[b4]? = some (.cells #[.string f.f0, .string f.f1, .int .i64 f.f2, .int .i64 f.f3, .int .i64 f.f4] 24 (0, 0))) (h5 : w.heap[b5]? = some (.cells #[.bool o] 4 (0, 0))) :
    Calls Try.prog 20 #[.slice A l.length c, fV b5 b4] w fun e w' => e = .returned (.int .i64 (idxF l f o)) ∧ Below w.heap.size w w' := by
  have HR := Aside0.mk fun (W : World) (hb : Below w.heap.size w W) => Kd.C_below hr hb
  have HW := Aside0.mk fun (r : S35) (W : World) (hb : Below w.heap.size w W) => hit_walk r f o b4 b5 W (blk_below h4 hb) (blk_below h5 hb)
  have HNO := Aside0.mk (@idx_none l f o)
  have HSO := Aside0.mk (@idx_some l f o)
  obtain ⟨n, hn⟩ : ∃ n, l.length = n := ⟨_, rfl⟩
  have HB := Aside0.mk (Below.refl w.heap.size w)
  unfold fV
  rw [hn] at hl HR HNO HSO ⊢
  clear hr hn h4 h5
  go_enter Try.func20, Try.ntmps20
  go_wp2_with (fail)
  go_loopw [8] (fun iv wr => ∃ i : Nat, i ≤ n ∧ iv = .int .i64 i ∧ Aside0 (∀ j, j < i → hitB f o (l.getD j z35) = false) ∧ Aside0 (Below w.heap.size w wr)) (fun iv _ => n - (intOf iv).toNat)
  case atStart => exact ⟨0, by omega, rfl, ⟨fun j hj => by omega⟩, HB⟩
  case round =>
    clear HB
    obtain ⟨i, hin, rfl, HI, HB⟩ := hrel
    by_cases hlt : i < n
    · have hd : decide ((i : Int) < (n : Int)) = true := decide_eq_true (by omega)
      have hd' : decide (i < n) = true := decide_eq_true hlt
      obtain ⟨ad, hA, _, LD⟩ := row35 (HR.out _ HB.out) i hlt
      subst hA
      obtain ⟨CS, hCS⟩ : ∃ CS, (enc35 (l.getD i z35)).toArray = CS := ⟨_, rfl⟩
      have HX := Aside0.mk (HW.out (l.getD i z35))
      rw [hCS] at LD HX
      clear hCS
      obtain ⟨hb, hhb⟩ : ∃ hb, hitB f o (l.getD i z35) = hb := ⟨_, rfl⟩
      have HH := Aside0.mk hhb
      rw [hhb] at HX
      clear hhb
      have hi1 : IntKind.i64.wrap ((i : Int) + 1) = ((i + 1 : Nat) : Int) := by rw [IntWalk.i64_in _ (by omega)]; omega
      go_wp2_with (first | ((with_reducible refine gate_dst (N := 15) rfl ?_); refine Kd.event_run (v := .agg CS) (w1 := wr) ?hg (load_runA 35 (.tmp 14) (ad.add (i * 16)) CS ?ho ?hx LD) ?_; (case hg => rfl); (case ho => rfl); (case hx => rfl); clear LD))
      refine (HX.out wr HB.out).mono ?_
      rintro e w2 ⟨rfl, hb2⟩
      have HB2 := Aside0.mk (HB.out.trans (hb2.mono HB.out.size))
      clear hb2
      cases hb
      · go_wp2_with (fail)
        go_roundw
        case rel =>
          refine ⟨i + 1, by omega, by go_num, ⟨fun j hj => ?_⟩, HB2⟩
          rcases Nat.lt_succ_iff_lt_or_eq.1 hj with h | rfl
          · exact HI.out j h
          · exact HH.out
        case measure => simp [intOf]; omega
      · go_wp2_with (fail)
        go_ret
        exact ⟨by rw [HSO.out hlt HI.out HH.out] <;> rfl, HB2.out⟩
    · have hd : decide ((i : Int) < (n : Int)) = false := decide_eq_false (by omega)
      have hd' : decide (i < n) = false := decide_eq_false hlt
      go_wp2_with (fail)
      go_ret
      exact ⟨by rw [HNO.out (fun j hj => HI.out j (by omega))] <;> rfl, HB.out⟩
end Go.Proofs.Ytdpfopeofeofcaa.Sp
namespace Go.Proofs.Ytdpfopeofeofcaa.Sp
open Go.RowKit Go.Proofs.YtdpfopeofeofcaaW.PrintWords Go.Proofs.YtdpfopeofeofcaaW.PrintLast Go.Proofs.YtdpfopeofeofcaaW.PrintMore Go.Proofs.Ytdpfopeofeofcaa.QSp
open Go.Proofs.Ytdpfopeofeofcaa
set_option linter.unusedVariables false
set_option linter.unusedSimpArgs false
/-- What Find answers. -/
def findI (i : Int) : Int × Int := if i < 0 then (0, 6) else (i, 0)
def findF (l : List S35) (f : S24) (o : Bool) : Int × Int := findI (idxF l f o)
def FindQ (w : World) (base q m : Nat) (v : Value) (l : List S35) (x : Int × Int) (e : Ending) (w' : World) : Prop := e = .returned (.tuple #[.int .i64 x.1, .int .i64 x.2]) ∧ SpdO w' base q m v l ∧ Turn w w' q m v v
theorem kept_push {l : List S35} {es : Array MapEntry} (h : Kept l es.toList) (f : S24) (o : Bool) (born : Nat) : Kept l (es.push { key := keyV f o, val := .int .i64 (idxF l f o), born := born }).toList := by
  intro e he
  rw [Array.toList_push, List.mem_append] at he
  rcases he with he | he
  · exact h e he
  · obtain rfl : e = _ := by simpa using he
    exact ⟨f, o, rfl, rfl⟩
theorem look_none (f : S24) (o : Bool) (w : World) : (Instr.findAsking 62 (keyV f o) (#[] : Array MapEntry).toList).run Try.prog w = .ok none w := by simp [Instr.findAsking]
theorem zero62 : (Try.prog.info? 62).map (·.size) = some 6 := by kernel_rfl
set_option maxHeartbeats 3200000 in
set_option maxRecDepth 100000 in
theorem find_aux {w : World} {base q m : Nat} {A : Option Addr} {c n : Nat} {l : List S35} (f0 f1 : ByteArray) (f2 f3 f4 : Int) (o : Bool) (iv v : Int) (ok : Bool) {es : Array MapEntry} {clock : Nat}
    (HO : Aside0 (SpdO w base q m (.slice A n c) l)) (HM : Aside0 (w.heap[m]? = some (.map es clock)))
    (LK : Aside0 (∀ W, W.heap[m]? = some (.map es clock) → (Instr.lookup 54 (.map (some m)) (.agg #[.string f0, .string f1, .int .i64 f2, .int .i64 f3, .int .i64 f4, .bool o]) true).run Try.prog W = .ok (.tuple #[.int .i64 v, .bool ok]) W))
    (HV : Aside0 (ok = true → v = iv))
    (UP : Aside0 (ok = false → ∀ (es' : Array MapEntry), es' = es ∨ es' = #[] → ∀ (k : Nat) (W : World), W.heap[m]? = some (.map es' k) → ∃ es2, (Instr.mapUpdate 54 (.map (some m)) (.agg #[.string f0, .string f1, .int .i64 f2, .int .i64 f3, .int .i64 f4, .bool o]) (.int .i64 iv)).run Try.prog W = .ok () (putM W m es2 (k + 1)) ∧ Kept l es2.toList))
    (IX : Aside0 (∀ (W : World) (b4 b5 : Nat), Below w.heap.size w W → W.heap[b4]? = some (.cells #[.string f0, .string f1, .int .i64 f2, .int .i64 f3, .int .i64 f4] 24 (0, 0)) → W.heap[b5]? = some (.cells #[.bool o] 4 (0, 0)) → Calls Try.prog 20 #[.slice A n c, fV b5 b4] W fun e w' => e = .returned (.int .i64 iv) ∧ Below W.heap.size W w'))
    (hlim : n ≤ 1000) :
    Calls Try.prog 12 #[.pointer (some ⟨q, 0, none⟩), .agg #[.string f0, .string f1, .int .i64 f2, .int .i64 f3, .int .i64 f4], .bool o] w (FindQ w base q m (.slice A n c) l (findI iv)) := by
  have TB := Aside0.mk (show ∀ W, Below w.heap.size w W → W.cell? ⟨q, 0, none⟩ = some (.slice A n c) ∧ W.cell? ⟨q, 1, none⟩ = some (.map (some m)) from fun W hb => ⟨(blk_cell (HO.out.below hb).blk 0).trans rfl, (blk_cell (HO.out.below hb).blk 1).trans rfl⟩)
  have HML := Aside0.mk (blk_lt HM.out)
  unfold fV at IX
  go_enter Try.func12, Try.ntmps12
  go_wp2_with (first | ((with_reducible refine gate_dst (N := 4) rfl ?_); refine box_event ?hg (N := 4) ?hd (cs := #[.string f0, .string f1, .int .i64 f2, .int .i64 f3, .int .i64 f4]) (t := 24) ?hr ?_; (case hd => rfl); (case hg => rfl); (case hr => first | (go_simp; done) | (go_simp; rfl)); intro q4 hq w1 hbox hb; have BKq4 := Aside0.mk hbox; have HQq4 := Aside0.mk (show w.heap.size ≤ q4 from by rw [hq]; exact Nat.le_refl _); have HB1 := Aside0.mk hb; clear hbox hb hq) | ((with_reducible refine gate_dst (N := 5) rfl ?_); refine box_event ?hg (N := 5) ?hd (cs := #[.bool o]) (t := 4) ?hr ?_; (case hd => rfl); (case hg => rfl); (case hr => first | (go_simp; done) | (go_simp; rfl)); intro q5 hq w2 hbox hb; have HNq4q5 := Aside0.mk (show q4 ≠ q5 from by have := blk_lt BKq4.out; omega); have BKq4 := Aside0.mk (blk_below BKq4.out hb); have BKq5 := Aside0.mk hbox; have HQq5 := Aside0.mk (show w.heap.size ≤ q5 from by rw [hq]; exact HB1.out.size); have HB2 := Aside0.mk (HB1.out.trans (hb.mono HB1.out.size)); clear hbox hb hq; have y4 : w2.cell? ⟨q5, 0, none⟩ = some (.bool o) := (blk_cell BKq5.out 0).trans rfl; have z0 : w2.cell? ⟨q4, 0, none⟩ = some (.string f0) := (blk_cell BKq4.out 0).trans rfl; have z1 : w2.cell? ⟨q4, 1, none⟩ = some (.string f1) := (blk_cell BKq4.out 1).trans rfl; have z2 : w2.cell? ⟨q4, 2, none⟩ = some (.int .i64 f2) := (blk_cell BKq4.out 2).trans rfl; have z3 : w2.cell? ⟨q4, 3, none⟩ = some (.int .i64 f3) := (blk_cell BKq4.out 3).trans rfl; have z4 : w2.cell? ⟨q4, 4, none⟩ = some (.int .i64 f4) := (blk_cell BKq4.out 4).trans rfl) | ((with_reducible refine gate_dst (N := 8) rfl ?_); refine box_event ?hg (N := 8) ?hd (cs := #[.string ByteArray.empty, .string ByteArray.empty, .int .i64 0, .int .i64 0, .int .i64 0, .bool false]) (t := 62) ?hr ?_; (case hd => rfl); (case hg => rfl); (case hr => first | (go_simp; done) | (go_simp; rfl)); intro q8 hq w3 hbox hb; have HNq4q8 := Aside0.mk (show q4 ≠ q8 from by have := blk_lt BKq4.out; omega); have HNq5q8 := Aside0.mk (show q5 ≠ q8 from by have := blk_lt BKq5.out; omega); have BKq4 := Aside0.mk (blk_below BKq4.out hb); have BKq5 := Aside0.mk (blk_below BKq5.out hb); have BKq8 := Aside0.mk hbox; have HQq8 := Aside0.mk (show w.heap.size ≤ q8 from by rw [hq]; exact HB2.out.size); have HB3 := Aside0.mk (HB2.out.trans (hb.mono HB2.out.size)); clear hbox hb hq; clear y4 z0 z1 z2 z3 z4) | ((with_reducible refine gate_store (t := 62) (p := 8) rfl ?_); have ca0 : w3.cell? ⟨q8, 0, none⟩ = some (.string ByteArray.empty) := (blk_cell BKq8.out 0).trans rfl; have ca1 : w3.cell? ⟨q8, 1, none⟩ = some (.string ByteArray.empty) := (blk_cell BKq8.out 1).trans rfl; have ca2 : w3.cell? ⟨q8, 2, none⟩ = some (.int .i64 0) := (blk_cell BKq8.out 2).trans rfl; have ca3 : w3.cell? ⟨q8, 3, none⟩ = some (.int .i64 0) := (blk_cell BKq8.out 3).trans rfl; have ca4 : w3.cell? ⟨q8, 4, none⟩ = some (.int .i64 0) := (blk_cell BKq8.out 4).trans rfl; have ca5 : w3.cell? ⟨q8, 5, none⟩ = some (.bool false) := (blk_cell BKq8.out 5).trans rfl; have fa0 : w3.frozen? ⟨q8, 0, none⟩ = false := blk_frozen BKq8.out 0; have fa1 : w3.frozen? ⟨q8, 1, none⟩ = false := blk_frozen BKq8.out 1; have fa2 : w3.frozen? ⟨q8, 2, none⟩ = false := blk_frozen BKq8.out 2; have fa3 : w3.frozen? ⟨q8, 3, none⟩ = false := blk_frozen BKq8.out 3; have fa4 : w3.frozen? ⟨q8, 4, none⟩ = false := blk_frozen BKq8.out 4; have fa5 : w3.frozen? ⟨q8, 5, none⟩ = false := blk_frozen BKq8.out 5; refine store_event (t := 62) (p := 8) (v := ?vo8_4_1_n1) (w1 := Cells.setAll w3 q8 0 [.string f0, .string f1, .int .i64 f2, .int .i64 f3, .int .i64 f4, .bool o]) ?hg ?ho ?hn ?hr ?_; (case ho => rfl); (case hg => rfl); (case hn => rfl); (case hr => first | (go_simp; done) | (go_simp; rfl)); intro w4 hw; have BKq4 := Aside0.mk (show w4.heap[q4]? = _ from (congrArg (fun W : World => W.heap[q4]?) hw).trans ((Cells.setAll_far HNq4q8.out _ _ _).trans BKq4.out)); have BKq5 := Aside0.mk (show w4.heap[q5]? = _ from (congrArg (fun W : World => W.heap[q5]?) hw).trans ((Cells.setAll_far HNq5q8.out _ _ _).trans BKq5.out)); have HB4 := Aside0.mk (show Below w.heap.size w w4 from by rw [hw]; exact Cells.setAll_below HQq8.out _ _ _ HB3.out); have BKq8 := Aside0.mk (show w4.heap[q8]? = some (.cells #[.string f0, .string f1, .int .i64 f2, .int .i64 f3, .int .i64 f4, .bool o] 62 (0, 0)) from by rw [hw]; exact Cells.stored6 BKq8.out); clear ca0 fa0 ca1 fa1 ca2 fa2 ca3 fa3 ca4 fa4 ca5 fa5; clear hw))
  refine start_ (n := 11) (S := fun W => Below w4.heap.size w4 W) (ds := []) #[false, false, false, false, false, false, false, false, false, false, false] (by kernel_rfl) rfl rfl (below_drew (Below.refl w4.heap.size w4)) (fun hHeld => ?_)
  refine pure_ (i := 0) (N := some 17) (v := ?_) (a' := ?_) #[true, false, false, false, false, false, false, false, false, false, false] rfl rfl (by kernel_rfl) (fun _ _ _ h => h) (Or.inl ⟨by rfl, ?_⟩) ?_ ?_
  rotate_left
  · intro w'
    go_simp
    with_reducible rfl
  rotate_left
  · simp only [Act.put, List.setIfInBounds_toArray, List.set_cons_zero, List.set_cons_succ]
    rfl
  refine pure_ (i := 1) (N := some 18) (v := ?_) (a' := ?_) #[true, true, false, false, false, false, false, false, false, false, false] rfl rfl (by kernel_rfl) (fun _ _ _ h => h) (Or.inl ⟨by rfl, ?_⟩) ?_ ?_
  rotate_left
  · intro w'
    go_simp
    with_reducible rfl
  rotate_left
  · simp only [Act.put, List.setIfInBounds_toArray, List.set_cons_zero, List.set_cons_succ]
    rfl
  refine pure_ (i := 2) (N := some 19) (v := ?_) (a' := ?_) #[true, true, true, false, false, false, false, false, false, false, false] rfl rfl (by kernel_rfl) (fun _ _ _ h => h) (Or.inl ⟨by rfl, ?_⟩) ?_ ?_
  rotate_left
  · intro w'
    go_simp
    with_reducible rfl
  rotate_left
  · simp only [Act.put, List.setIfInBounds_toArray, List.set_cons_zero, List.set_cons_succ]
    rfl
  refine take_ (i := 3) (N := some 20) (v := ?_) (a' := ?_) #[true, true, true, true, false, false, false, false, false, false, false] rfl rfl (by kernel_rfl) (fun _ _ _ h => h) (Or.inl ⟨by rfl, ?_⟩) hHeld ?_ ?_
  rotate_left
  · intro w' s0
    have hb := HB4.out.trans (s0.mono HB4.out.size)
    obtain ⟨x0, x1⟩ := TB.out _ hb
    have BKt := Aside0.mk (blk_below BKq8.out s0)
    have y0 : w'.cell? ⟨q8, 0, none⟩ = some (.string f0) := (blk_cell BKt.out 0).trans rfl
    have y1 : w'.cell? ⟨q8, 1, none⟩ = some (.string f1) := (blk_cell BKt.out 1).trans rfl
    have y2 : w'.cell? ⟨q8, 2, none⟩ = some (.int .i64 f2) := (blk_cell BKt.out 2).trans rfl
    have y3 : w'.cell? ⟨q8, 3, none⟩ = some (.int .i64 f3) := (blk_cell BKt.out 3).trans rfl
    have y4 : w'.cell? ⟨q8, 4, none⟩ = some (.int .i64 f4) := (blk_cell BKt.out 4).trans rfl
    have y5 : w'.cell? ⟨q8, 5, none⟩ = some (.bool o) := (blk_cell BKt.out 5).trans rfl
    have LKx := LK.out w' (blk_below HM.out hb)
    go_simp
    with_reducible rfl
  rotate_left
  · simp only [Act.put, List.setIfInBounds_toArray, List.set_cons_zero, List.set_cons_succ]
    rfl
  refine take_ (i := 4) (N := some 21) (v := ?_) (a' := ?_) #[true, true, true, true, true, false, false, false, false, false, false] rfl rfl (by kernel_rfl) (fun _ _ _ h => h) (Or.inl ⟨by rfl, ?_⟩) hHeld ?_ ?_
  rotate_left
  · intro w' s0
    have hb := HB4.out.trans (s0.mono HB4.out.size)
    obtain ⟨x0, x1⟩ := TB.out _ hb
    have BKt := Aside0.mk (blk_below BKq8.out s0)
    have y0 : w'.cell? ⟨q8, 0, none⟩ = some (.string f0) := (blk_cell BKt.out 0).trans rfl
    have y1 : w'.cell? ⟨q8, 1, none⟩ = some (.string f1) := (blk_cell BKt.out 1).trans rfl
    have y2 : w'.cell? ⟨q8, 2, none⟩ = some (.int .i64 f2) := (blk_cell BKt.out 2).trans rfl
    have y3 : w'.cell? ⟨q8, 3, none⟩ = some (.int .i64 f3) := (blk_cell BKt.out 3).trans rfl
    have y4 : w'.cell? ⟨q8, 4, none⟩ = some (.int .i64 f4) := (blk_cell BKt.out 4).trans rfl
    have y5 : w'.cell? ⟨q8, 5, none⟩ = some (.bool o) := (blk_cell BKt.out 5).trans rfl
    have LKx := LK.out w' (blk_below HM.out hb)
    go_simp
    with_reducible rfl
  rotate_left
  · simp only [Act.put, List.setIfInBounds_toArray, List.set_cons_zero, List.set_cons_succ]
    rfl
  refine take_ (i := 5) (N := some 22) (v := ?_) (a' := ?_) #[true, true, true, true, true, true, false, false, false, false, false] rfl rfl (by kernel_rfl) (fun _ _ _ h => h) (Or.inl ⟨by rfl, ?_⟩) hHeld ?_ ?_
  rotate_left
  · intro w' s0
    have hb := HB4.out.trans (s0.mono HB4.out.size)
    obtain ⟨x0, x1⟩ := TB.out _ hb
    have BKt := Aside0.mk (blk_below BKq8.out s0)
    have y0 : w'.cell? ⟨q8, 0, none⟩ = some (.string f0) := (blk_cell BKt.out 0).trans rfl
    have y1 : w'.cell? ⟨q8, 1, none⟩ = some (.string f1) := (blk_cell BKt.out 1).trans rfl
    have y2 : w'.cell? ⟨q8, 2, none⟩ = some (.int .i64 f2) := (blk_cell BKt.out 2).trans rfl
    have y3 : w'.cell? ⟨q8, 3, none⟩ = some (.int .i64 f3) := (blk_cell BKt.out 3).trans rfl
    have y4 : w'.cell? ⟨q8, 4, none⟩ = some (.int .i64 f4) := (blk_cell BKt.out 4).trans rfl
    have y5 : w'.cell? ⟨q8, 5, none⟩ = some (.bool o) := (blk_cell BKt.out 5).trans rfl
    have LKx := LK.out w' (blk_below HM.out hb)
    go_simp
    with_reducible rfl
  rotate_left
  · simp only [Act.put, List.setIfInBounds_toArray, List.set_cons_zero, List.set_cons_succ]
    rfl
  refine pure_ (i := 6) (N := some 16) (v := ?_) (a' := ?_) #[true, true, true, true, true, true, true, false, false, false, false] rfl rfl (by kernel_rfl) (fun _ _ _ h => h) (Or.inl ⟨by rfl, ?_⟩) ?_ ?_
  rotate_left
  · intro w'
    go_simp
    with_reducible rfl
  rotate_left
  · simp only [Act.put, List.setIfInBounds_toArray, List.set_cons_zero, List.set_cons_succ]
    rfl
  refine pure_ (i := 7) (N := some 23) (v := ?_) (a' := ?_) #[true, true, true, true, true, true, true, true, false, false, false] rfl rfl (by kernel_rfl) (fun _ _ _ h => h) (Or.inl ⟨by rfl, ?_⟩) ?_ ?_
  rotate_left
  · intro w'
    go_simp
    with_reducible rfl
  rotate_left
  · simp only [Act.put, List.setIfInBounds_toArray, List.set_cons_zero, List.set_cons_succ]
    rfl
  refine pure_ (i := 8) (N := some 24) (v := ?_) (a' := ?_) #[true, true, true, true, true, true, true, true, true, false, false] rfl rfl (by kernel_rfl) (fun _ _ _ h => h) (Or.inl ⟨by rfl, ?_⟩) ?_ ?_
  rotate_left
  · intro w'
    go_simp
    with_reducible rfl
  rotate_left
  · simp only [Act.put, List.setIfInBounds_toArray, List.set_cons_zero, List.set_cons_succ]
    rfl
  refine pure_ (i := 9) (N := some 9) (v := ?_) (a' := ?_) #[true, true, true, true, true, true, true, true, true, true, false] rfl rfl (by kernel_rfl) (fun _ _ _ h => h) (Or.inl ⟨by rfl, ?_⟩) ?_ ?_
  rotate_left
  · intro w'
    go_simp
    with_reducible rfl
  rotate_left
  · simp only [Act.put, List.setIfInBounds_toArray, List.set_cons_zero, List.set_cons_succ]
    rfl
  refine pure_ (i := 10) (N := some 10) (v := ?_) (a' := ?_) #[true, true, true, true, true, true, true, true, true, true, true] rfl rfl (by kernel_rfl) (fun _ _ _ h => h) (Or.inl ⟨by rfl, ?_⟩) ?_ ?_
  rotate_left
  · intro w'
    go_simp
    with_reducible rfl
  rotate_left
  · simp only [Act.put, List.setIfInBounds_toArray, List.set_cons_zero, List.set_cons_succ]
    rfl
  refine done_ (by kernel_rfl) ?_
  have BKq8 := Aside0.mk (blk_below BKq8.out hHeld)
  have BKq4 := Aside0.mk (blk_below BKq4.out hHeld)
  have BKq5 := Aside0.mk (blk_below BKq5.out hHeld)
  have HB5 := Aside0.mk (HB4.out.trans (hHeld.mono HB4.out.size))
  clear hHeld
  obtain ⟨w5, hw5⟩ : ∃ w5, w4.drew = w5 := ⟨_, rfl⟩
  rw [hw5] at BKq8 BKq4 BKq5 HB5 ⊢
  clear hw5
  have HNI := Aside0.mk (show findI iv = if iv < 0 then (0, 6) else (iv, 0) from rfl)
  cases ok
  · obtain ⟨x0, x1⟩ := TB.out _ HB5.out
    go_wp2_with (fail)
    refine (IX.out w5 q4 q5 HB5.out BKq4.out BKq5.out).mono ?_
    rintro e w6 ⟨rfl, hb⟩
    have HB6 := Aside0.mk (HB5.out.trans (hb.mono HB5.out.size))
    have BKq8 := Aside0.mk (blk_below BKq8.out hb)
    clear hb x0 x1
    obtain ⟨x0, x1⟩ := TB.out _ HB6.out
    have HM6 := Aside0.mk (blk_below HM.out HB6.out)
    have HNM := Aside0.mk (show q8 ≠ m from by have := HML.out; have := HQq8.out; omega)
    have hM6 := HM6.out
    have hln := fun ty => run_len_map (P := Try.prog) (w := w6) 54 ty m es clock (by kernel_rfl) HM6.out
    unfold goInt at hln
    by_cases hbig : 1024 ≤ es.size
    · have d1 : decide ((1024 : Int) ≤ (es.size : Int)) = true := decide_eq_true (by omega)
      have d1n : decide (1024 ≤ es.size) = true := decide_eq_true hbig
      have hcl := fun ty => clear54 ty m clock w6 HM6.out
      have HT7 := Aside0.mk (SpdO.lay (es' := #[]) (clock' := clock) (HO.out.below HB6.out).blk HM6.out (HO.out.below HB6.out).own HO.out.low HO.out.lom (kept_nil l) (Turn.of_below HB6.out q m (.slice A n c)))
      have HM7 := Aside0.mk (putM_blk (es' := #[]) (clock' := clock) HM6.out)
      have BKq8 := Aside0.mk ((putM_far #[] clock HNM.out).trans BKq8.out)
      obtain ⟨es2, hup, hk2⟩ := UP.out (by trivial) #[] (Or.inr rfl) clock (putM w6 m #[] clock).drew HM7.out
      have HU := Aside0.mk hup
      have HK2 := Aside0.mk hk2
      clear hbig hup hk2
      go_wp2_with (fail)
      clear hcl hln hM6 x0 x1
      obtain ⟨w7, hw7⟩ : ∃ w7, putM w6 m #[] clock = w7 := ⟨_, rfl⟩
      rw [hw7] at HT7 HM7 BKq8 HU ⊢
      clear hw7
      have HD7 := Aside0.mk (HT7.out.1.below (below_drew (Below.refl _ _)))
      have HT8 := Aside0.mk (SpdO.lay (w9 := w7.drew) (es' := es2) (clock' := clock + 1) HD7.out.blk HM7.out HD7.out.own HO.out.low HO.out.lom HK2.out ⟨HT7.out.2.os, HT7.out.2.tape, HT7.out.2.output, HT7.out.2.size, HT7.out.2.block, HT7.out.2.row⟩)
      refine start_ (n := 7) (S := fun W => Below w7.heap.size w7 W) (ds := [6]) #[false, false, false, false, false, false, false] (by kernel_rfl) rfl rfl (below_drew (Below.refl w7.heap.size w7)) (fun hHeld => ?_)
      refine pure_ (i := 0) (N := some 43) (v := ?_) (a' := ?_) #[true, false, false, false, false, false, false] rfl rfl (by kernel_rfl) (fun _ _ _ h => h) (Or.inl ⟨by rfl, ?_⟩) ?_ ?_
      rotate_left
      · intro w'
        go_simp
        with_reducible rfl
      rotate_left
      · simp only [Act.put, List.setIfInBounds_toArray, List.set_cons_zero, List.set_cons_succ]
        rfl
      refine pure_ (i := 1) (N := some 44) (v := ?_) (a' := ?_) #[true, true, false, false, false, false, false] rfl rfl (by kernel_rfl) (fun _ _ _ h => h) (Or.inl ⟨by rfl, ?_⟩) ?_ ?_
      rotate_left
      · intro w'
        go_simp
        with_reducible rfl
      rotate_left
      · simp only [Act.put, List.setIfInBounds_toArray, List.set_cons_zero, List.set_cons_succ]
        rfl
      refine pure_ (i := 2) (N := some 45) (v := ?_) (a' := ?_) #[true, true, true, false, false, false, false] rfl rfl (by kernel_rfl) (fun _ _ _ h => h) (Or.inl ⟨by rfl, ?_⟩) ?_ ?_
      rotate_left
      · intro w'
        go_simp
        with_reducible rfl
      rotate_left
      · simp only [Act.put, List.setIfInBounds_toArray, List.set_cons_zero, List.set_cons_succ]
        rfl
      refine take_ (i := 3) (N := some 46) (v := ?_) (a' := ?_) #[true, true, true, true, false, false, false] rfl rfl (by kernel_rfl) (fun _ _ _ h => h) (Or.inl ⟨by rfl, ?_⟩) hHeld ?_ ?_
      rotate_left
      · intro w' s0
        have hS := HT7.out.1.below s0
        have x0 : w'.cell? ⟨q, 0, none⟩ = some (.slice A n c) := (blk_cell hS.blk 0).trans rfl
        have x1 : w'.cell? ⟨q, 1, none⟩ = some (.map (some m)) := (blk_cell hS.blk 1).trans rfl
        have BKt := Aside0.mk (blk_below BKq8.out s0)
        have y0 : w'.cell? ⟨q8, 0, none⟩ = some (.string f0) := (blk_cell BKt.out 0).trans rfl
        have y1 : w'.cell? ⟨q8, 1, none⟩ = some (.string f1) := (blk_cell BKt.out 1).trans rfl
        have y2 : w'.cell? ⟨q8, 2, none⟩ = some (.int .i64 f2) := (blk_cell BKt.out 2).trans rfl
        have y3 : w'.cell? ⟨q8, 3, none⟩ = some (.int .i64 f3) := (blk_cell BKt.out 3).trans rfl
        have y4 : w'.cell? ⟨q8, 4, none⟩ = some (.int .i64 f4) := (blk_cell BKt.out 4).trans rfl
        have y5 : w'.cell? ⟨q8, 5, none⟩ = some (.bool o) := (blk_cell BKt.out 5).trans rfl
        go_simp
        with_reducible rfl
      rotate_left
      · simp only [Act.put, List.setIfInBounds_toArray, List.set_cons_zero, List.set_cons_succ]
        rfl
      refine take_ (i := 4) (N := some 47) (v := ?_) (a' := ?_) #[true, true, true, true, true, false, false] rfl rfl (by kernel_rfl) (fun _ _ _ h => h) (Or.inl ⟨by rfl, ?_⟩) hHeld ?_ ?_
      rotate_left
      · intro w' s0
        have hS := HT7.out.1.below s0
        have x0 : w'.cell? ⟨q, 0, none⟩ = some (.slice A n c) := (blk_cell hS.blk 0).trans rfl
        have x1 : w'.cell? ⟨q, 1, none⟩ = some (.map (some m)) := (blk_cell hS.blk 1).trans rfl
        have BKt := Aside0.mk (blk_below BKq8.out s0)
        have y0 : w'.cell? ⟨q8, 0, none⟩ = some (.string f0) := (blk_cell BKt.out 0).trans rfl
        have y1 : w'.cell? ⟨q8, 1, none⟩ = some (.string f1) := (blk_cell BKt.out 1).trans rfl
        have y2 : w'.cell? ⟨q8, 2, none⟩ = some (.int .i64 f2) := (blk_cell BKt.out 2).trans rfl
        have y3 : w'.cell? ⟨q8, 3, none⟩ = some (.int .i64 f3) := (blk_cell BKt.out 3).trans rfl
        have y4 : w'.cell? ⟨q8, 4, none⟩ = some (.int .i64 f4) := (blk_cell BKt.out 4).trans rfl
        have y5 : w'.cell? ⟨q8, 5, none⟩ = some (.bool o) := (blk_cell BKt.out 5).trans rfl
        go_simp
        with_reducible rfl
      rotate_left
      · simp only [Act.put, List.setIfInBounds_toArray, List.set_cons_zero, List.set_cons_succ]
        rfl
      refine pure_ (i := 5) (N := some 48) (v := ?_) (a' := ?_) #[true, true, true, true, true, true, false] rfl rfl (by kernel_rfl) (fun _ _ _ h => h) (Or.inl ⟨by rfl, ?_⟩) ?_ ?_
      rotate_left
      · intro w'
        go_simp
        with_reducible rfl
      rotate_left
      · simp only [Act.put, List.setIfInBounds_toArray, List.set_cons_zero, List.set_cons_succ]
        rfl
      refine last_ (i := 6) (N := none) #[true, true, true, true, true, true, true] rfl rfl (by kernel_rfl) (by decide) (fun K hK => ?_)
      refine skip_ (w1 := putM w7.drew m es2 (clock + 1)) (by rfl) rfl ?_ ?_
      · have UPx := HU.out
        go_simp
      refine hK.out _ _ ?_
      clear hK K
      refine done_ (by kernel_rfl) ?_
      obtain ⟨w8, hw8⟩ : ∃ w8, putM w7.drew m es2 (clock + 1) = w8 := ⟨_, rfl⟩
      rw [hw8] at HT8 ⊢
      clear hw8
      (try simp only [Exit.inBlock, Exit.then])
      by_cases hneg : iv < 0
      · have d3 : decide (iv < 0) = true := decide_eq_true hneg
        have HN := Aside0.mk hneg
        clear hneg
        go_wp2_with (fail)
        go_ret2
        exact ⟨by rw [HNI.out, if_pos (by have := HN.out; omega)] <;> rfl, HT8.out.1, HT8.out.2⟩
      · have d3 : decide (iv < 0) = false := decide_eq_false hneg
        have HN := Aside0.mk hneg
        clear hneg
        go_wp2_with (fail)
        go_ret2
        exact ⟨by rw [HNI.out, if_neg (by have := HN.out; omega)] <;> rfl, HT8.out.1, HT8.out.2⟩
    · have d1 : decide ((1024 : Int) ≤ (es.size : Int)) = false := decide_eq_false (by omega)
      have d1n : decide (1024 ≤ es.size) = false := decide_eq_false hbig
      have HT7 := Aside0.mk (And.intro (HO.out.below HB6.out) (Turn.of_below HB6.out q m (.slice A n c)))
      obtain ⟨es2, hup, hk2⟩ := UP.out (by trivial) es (Or.inl rfl) clock w6.drew HM6.out
      have HU := Aside0.mk hup
      have HK2 := Aside0.mk hk2
      have HM7 := HM6
      clear hbig hup hk2
      go_wp2_with (fail)
      clear hln hM6 x0 x1
      obtain ⟨w7, hw7⟩ : ∃ w7, w6 = w7 := ⟨_, rfl⟩
      rw [hw7] at HT7 HM7 BKq8 HU ⊢
      clear hw7
      have HD7 := Aside0.mk (HT7.out.1.below (below_drew (Below.refl _ _)))
      have HT8 := Aside0.mk (SpdO.lay (w9 := w7.drew) (es' := es2) (clock' := clock + 1) HD7.out.blk HM7.out HD7.out.own HO.out.low HO.out.lom HK2.out ⟨HT7.out.2.os, HT7.out.2.tape, HT7.out.2.output, HT7.out.2.size, HT7.out.2.block, HT7.out.2.row⟩)
      refine start_ (n := 7) (S := fun W => Below w7.heap.size w7 W) (ds := [6]) #[false, false, false, false, false, false, false] (by kernel_rfl) rfl rfl (below_drew (Below.refl w7.heap.size w7)) (fun hHeld => ?_)
      refine pure_ (i := 0) (N := some 43) (v := ?_) (a' := ?_) #[true, false, false, false, false, false, false] rfl rfl (by kernel_rfl) (fun _ _ _ h => h) (Or.inl ⟨by rfl, ?_⟩) ?_ ?_
      rotate_left
      · intro w'
        go_simp
        with_reducible rfl
      rotate_left
      · simp only [Act.put, List.setIfInBounds_toArray, List.set_cons_zero, List.set_cons_succ]
        rfl
      refine pure_ (i := 1) (N := some 44) (v := ?_) (a' := ?_) #[true, true, false, false, false, false, false] rfl rfl (by kernel_rfl) (fun _ _ _ h => h) (Or.inl ⟨by rfl, ?_⟩) ?_ ?_
      rotate_left
      · intro w'
        go_simp
        with_reducible rfl
      rotate_left
      · simp only [Act.put, List.setIfInBounds_toArray, List.set_cons_zero, List.set_cons_succ]
        rfl
      refine pure_ (i := 2) (N := some 45) (v := ?_) (a' := ?_) #[true, true, true, false, false, false, false] rfl rfl (by kernel_rfl) (fun _ _ _ h => h) (Or.inl ⟨by rfl, ?_⟩) ?_ ?_
      rotate_left
      · intro w'
        go_simp
        with_reducible rfl
      rotate_left
      · simp only [Act.put, List.setIfInBounds_toArray, List.set_cons_zero, List.set_cons_succ]
        rfl
      refine take_ (i := 3) (N := some 46) (v := ?_) (a' := ?_) #[true, true, true, true, false, false, false] rfl rfl (by kernel_rfl) (fun _ _ _ h => h) (Or.inl ⟨by rfl, ?_⟩) hHeld ?_ ?_
      rotate_left
      · intro w' s0
        have hS := HT7.out.1.below s0
        have x0 : w'.cell? ⟨q, 0, none⟩ = some (.slice A n c) := (blk_cell hS.blk 0).trans rfl
        have x1 : w'.cell? ⟨q, 1, none⟩ = some (.map (some m)) := (blk_cell hS.blk 1).trans rfl
        have BKt := Aside0.mk (blk_below BKq8.out s0)
        have y0 : w'.cell? ⟨q8, 0, none⟩ = some (.string f0) := (blk_cell BKt.out 0).trans rfl
        have y1 : w'.cell? ⟨q8, 1, none⟩ = some (.string f1) := (blk_cell BKt.out 1).trans rfl
        have y2 : w'.cell? ⟨q8, 2, none⟩ = some (.int .i64 f2) := (blk_cell BKt.out 2).trans rfl
        have y3 : w'.cell? ⟨q8, 3, none⟩ = some (.int .i64 f3) := (blk_cell BKt.out 3).trans rfl
        have y4 : w'.cell? ⟨q8, 4, none⟩ = some (.int .i64 f4) := (blk_cell BKt.out 4).trans rfl
        have y5 : w'.cell? ⟨q8, 5, none⟩ = some (.bool o) := (blk_cell BKt.out 5).trans rfl
        go_simp
        with_reducible rfl
      rotate_left
      · simp only [Act.put, List.setIfInBounds_toArray, List.set_cons_zero, List.set_cons_succ]
        rfl
      refine take_ (i := 4) (N := some 47) (v := ?_) (a' := ?_) #[true, true, true, true, true, false, false] rfl rfl (by kernel_rfl) (fun _ _ _ h => h) (Or.inl ⟨by rfl, ?_⟩) hHeld ?_ ?_
      rotate_left
      · intro w' s0
        have hS := HT7.out.1.below s0
        have x0 : w'.cell? ⟨q, 0, none⟩ = some (.slice A n c) := (blk_cell hS.blk 0).trans rfl
        have x1 : w'.cell? ⟨q, 1, none⟩ = some (.map (some m)) := (blk_cell hS.blk 1).trans rfl
        have BKt := Aside0.mk (blk_below BKq8.out s0)
        have y0 : w'.cell? ⟨q8, 0, none⟩ = some (.string f0) := (blk_cell BKt.out 0).trans rfl
        have y1 : w'.cell? ⟨q8, 1, none⟩ = some (.string f1) := (blk_cell BKt.out 1).trans rfl
        have y2 : w'.cell? ⟨q8, 2, none⟩ = some (.int .i64 f2) := (blk_cell BKt.out 2).trans rfl
        have y3 : w'.cell? ⟨q8, 3, none⟩ = some (.int .i64 f3) := (blk_cell BKt.out 3).trans rfl
        have y4 : w'.cell? ⟨q8, 4, none⟩ = some (.int .i64 f4) := (blk_cell BKt.out 4).trans rfl
        have y5 : w'.cell? ⟨q8, 5, none⟩ = some (.bool o) := (blk_cell BKt.out 5).trans rfl
        go_simp
        with_reducible rfl
      rotate_left
      · simp only [Act.put, List.setIfInBounds_toArray, List.set_cons_zero, List.set_cons_succ]
        rfl
      refine pure_ (i := 5) (N := some 48) (v := ?_) (a' := ?_) #[true, true, true, true, true, true, false] rfl rfl (by kernel_rfl) (fun _ _ _ h => h) (Or.inl ⟨by rfl, ?_⟩) ?_ ?_
      rotate_left
      · intro w'
        go_simp
        with_reducible rfl
      rotate_left
      · simp only [Act.put, List.setIfInBounds_toArray, List.set_cons_zero, List.set_cons_succ]
        rfl
      refine last_ (i := 6) (N := none) #[true, true, true, true, true, true, true] rfl rfl (by kernel_rfl) (by decide) (fun K hK => ?_)
      refine skip_ (w1 := putM w7.drew m es2 (clock + 1)) (by rfl) rfl ?_ ?_
      · have UPx := HU.out
        go_simp
      refine hK.out _ _ ?_
      clear hK K
      refine done_ (by kernel_rfl) ?_
      obtain ⟨w8, hw8⟩ : ∃ w8, putM w7.drew m es2 (clock + 1) = w8 := ⟨_, rfl⟩
      rw [hw8] at HT8 ⊢
      clear hw8
      (try simp only [Exit.inBlock, Exit.then])
      by_cases hneg : iv < 0
      · have d3 : decide (iv < 0) = true := decide_eq_true hneg
        have HN := Aside0.mk hneg
        clear hneg
        go_wp2_with (fail)
        go_ret2
        exact ⟨by rw [HNI.out, if_pos (by have := HN.out; omega)] <;> rfl, HT8.out.1, HT8.out.2⟩
      · have d3 : decide (iv < 0) = false := decide_eq_false hneg
        have HN := Aside0.mk hneg
        clear hneg
        go_wp2_with (fail)
        go_ret2
        exact ⟨by rw [HNI.out, if_neg (by have := HN.out; omega)] <;> rfl, HT8.out.1, HT8.out.2⟩
  · obtain rfl := HV.out (by trivial)
    have HT8 := Aside0.mk (And.intro (HO.out.below HB5.out) (Turn.of_below HB5.out q m (.slice A n c)))
    obtain ⟨w8, hw8⟩ : ∃ w8, w5 = w8 := ⟨_, rfl⟩
    rw [hw8] at HT8 ⊢
    clear hw8
    by_cases hneg : v < 0
    · have d3 : decide (v < 0) = true := decide_eq_true hneg
      have HN := Aside0.mk hneg
      clear hneg
      go_wp2_with (fail)
      go_ret2
      exact ⟨by rw [HNI.out, if_pos (by have := HN.out; omega)] <;> rfl, HT8.out.1, HT8.out.2⟩
    · have d3 : decide (v < 0) = false := decide_eq_false hneg
      have HN := Aside0.mk hneg
      clear hneg
      go_wp2_with (fail)
      go_ret2
      exact ⟨by rw [HNI.out, if_neg (by have := HN.out; omega)] <;> rfl, HT8.out.1, HT8.out.2⟩
theorem find_call {w : World} {base q m : Nat} {v : Value} {l : List S35} (h : SpdO w base q m v l) (hlim : l.length ≤ 1000) (f : S24) (o : Bool) : Calls Try.prog 12 #[.pointer (some ⟨q, 0, none⟩), v24 f, .bool o] w (FindQ w base q m v l (findF l f o)) := by
  obtain ⟨A, c, rfl, _, _⟩ := own_slice' h.own
  obtain ⟨es, clock, hm, hk⟩ := h.map
  obtain ⟨v, ok, h1, h2, h3⟩ := look54 hk f o
  have hr := (Kd.R_reads' (R_of_own h.own)).2.2
  refine find_aux f.f0 f.f1 f.f2 f.f3 f.f4 o (idxF l f o) v ok ⟨h⟩ ⟨hm⟩ ⟨fun W hW => h1 m clock W hW⟩ ⟨h2⟩ ⟨fun hok es' hes k W hW => ?_⟩ ⟨fun W b4 b5 hb h4 h5 => ?_⟩ hlim
  · rcases hes with rfl | rfl
    · exact ⟨_, upd54 f o (h3 hok) _ m k W hW, kept_push hk f o k⟩
    · exact ⟨_, upd54 f o (look_none f o) _ m k W hW, kept_push (kept_nil l) f o k⟩
  · exact index_walk A c l f o b4 b5 W (Kd.C_below hr hb) hlim h4 h5
set_option maxHeartbeats 1600000 in
set_option maxRecDepth 100000 in
theorem find_nil (f : S24) (o : Bool) (w : World) : Calls Try.prog 12 #[.pointer none, v24 f, .bool o] w fun e w' => e = .returned (.tuple #[.int .i64 0, .int .i64 3]) ∧ Below w.heap.size w w' := by
  obtain ⟨f0, f1, f2, f3, f4⟩ := f
  unfold v24
  dsimp only
  go_enter Try.func12, Try.ntmps12
  go_wp2_with (first | ((with_reducible refine gate_dst (N := 4) rfl ?_); refine box_event ?hg (N := 4) ?hd (cs := #[.string f0, .string f1, .int .i64 f2, .int .i64 f3, .int .i64 f4]) (t := 24) ?hr ?_; (case hd => rfl); (case hg => rfl); (case hr => first | (go_simp; done) | (go_simp; rfl)); intro q4 hq w1 hbox hb; have BKq4 := Aside0.mk hbox; have HQq4 := Aside0.mk (show w.heap.size ≤ q4 from by rw [hq]; exact Nat.le_refl _); have HB1 := Aside0.mk hb; clear hbox hb hq) | ((with_reducible refine gate_dst (N := 5) rfl ?_); refine box_event ?hg (N := 5) ?hd (cs := #[.bool o]) (t := 4) ?hr ?_; (case hd => rfl); (case hg => rfl); (case hr => first | (go_simp; done) | (go_simp; rfl)); intro q5 hq w2 hbox hb; have HNq4q5 := Aside0.mk (show q4 ≠ q5 from by have := blk_lt BKq4.out; omega); have BKq4 := Aside0.mk (blk_below BKq4.out hb); have BKq5 := Aside0.mk hbox; have HQq5 := Aside0.mk (show w.heap.size ≤ q5 from by rw [hq]; exact HB1.out.size); have HB2 := Aside0.mk (HB1.out.trans (hb.mono HB1.out.size)); clear hbox hb hq; have y4 : w2.cell? ⟨q5, 0, none⟩ = some (.bool o) := (blk_cell BKq5.out 0).trans rfl; have z0 : w2.cell? ⟨q4, 0, none⟩ = some (.string f0) := (blk_cell BKq4.out 0).trans rfl; have z1 : w2.cell? ⟨q4, 1, none⟩ = some (.string f1) := (blk_cell BKq4.out 1).trans rfl; have z2 : w2.cell? ⟨q4, 2, none⟩ = some (.int .i64 f2) := (blk_cell BKq4.out 2).trans rfl; have z3 : w2.cell? ⟨q4, 3, none⟩ = some (.int .i64 f3) := (blk_cell BKq4.out 3).trans rfl; have z4 : w2.cell? ⟨q4, 4, none⟩ = some (.int .i64 f4) := (blk_cell BKq4.out 4).trans rfl))
  go_ret2
  exact ⟨rfl, HB2.out⟩
end Go.Proofs.Ytdpfopeofeofcaa.Sp
namespace Go.Proofs.Ytdpfopeofeofcaa.Sp
open Go.RowKit Go.Proofs.YtdpfopeofeofcaaW.PrintWords Go.Proofs.YtdpfopeofeofcaaW.PrintLast Go.Proofs.YtdpfopeofeofcaaW.PrintMore Go.Proofs.Ytdpfopeofeofcaa.QSp
open Go.Proofs.Ytdpfopeofeofcaa
set_option linter.unusedVariables false
set_option linter.unusedSimpArgs false
theorem Turn.below {w0 w w' : World} {q m : Nat} {v v' : Value} {L : List S35} (hb : Below w0.heap.size w0 w) (h : Turn w w' q m v v') (ht : SpdO w w0.heap.size q m v L) : Below w0.heap.size w0 w' :=
  ⟨h.os.trans hb.os, h.tape.trans hb.tape, h.output.trans hb.output, Nat.le_trans hb.size h.size, fun k hk => (h.block k (Nat.lt_of_lt_of_le hk hb.size) (by have := ht.low; omega) (by have := ht.lom; omega) (fun e => by have := own_base ht.own k e.symm; omega)).trans (hb.block k hk)⟩
/-- A policy that was made in the walk. -/
structure One (w0 w : World) (q m : Nat) (v : Value) (L : List S35) : Prop where
  tab : SpdO w w0.heap.size q m v L
  below : Below w0.heap.size w0 w
theorem One.step {w0 w w' : World} {q m : Nat} {v : Value} {L : List S35} (h : One w0 w q m v L) (hb : Below w.heap.size w w') : One w0 w' q m v L := ⟨h.tab.below hb, h.below.trans (hb.mono h.below.size)⟩
theorem One.turn {w0 w w' : World} {q m : Nat} {v v' : Value} {L L' : List S35} (h : One w0 w q m v L) (ht : SpdO w' w0.heap.size q m v' L') (hu : Turn w w' q m v v') : One w0 w' q m v' L' := ⟨ht, hu.below h.below h.tab⟩
theorem blk_turn {w w' : World} {base q m g : Nat} {v v' : Value} {L : List S35} {cs : Array Value} {t : TypeId} (h : w.heap[g]? = some (.cells cs t (0, 0))) (ht : SpdO w base q m v L) (hu : Turn w w' q m v v') (h1 : t ≠ 56 := by decide) (h2 : 35 ≠ t := by decide) : w'.heap[g]? = some (.cells cs t (0, 0)) := by
  obtain ⟨es, c, hm, _⟩ := ht.map
  exact (hu.block g (blk_lt h) (blk_ne h ht.blk h1) (blk_neM h hm) (own_neT ht.own h h2)).trans h
def rl1 : S35 := ⟨0, ⟨⟨ByteArray.empty, ByteArray.empty⟩, ⟨ByteArray.empty, ByteArray.empty⟩, -1, ⟨0, 65535⟩, ⟨0, 65535⟩⟩, true, false, 2, false, ByteArray.empty, ByteArray.empty⟩
def rl2 : S35 := ⟨0, ⟨⟨ByteArray.empty, ByteArray.empty⟩, ⟨ByteArray.empty, ByteArray.empty⟩, 17, ⟨0, 65535⟩, ⟨0, 65535⟩⟩, true, false, 1, false, ByteArray.empty, ByteArray.empty⟩
def fl1 : S24 := ⟨⟨#[97, 98, 99, 100]⟩, ⟨#[101, 102, 103, 104]⟩, 17, 1, 2⟩
def fl2 : S24 := ⟨⟨#[97, 98, 99, 100]⟩, ⟨#[101, 102, 103, 104]⟩, 6, 1, 2⟩
theorem aw1 : addF [] 0 rl1 = ([rl1], 0) := by kernel_rfl
theorem aw2 : addF [rl1] 0 rl2 = ([rl2, rl1], 0) := by kernel_rfl
theorem aw3 : findF [rl2, rl1] fl1 true = (0, 0) := by kernel_rfl
theorem aw4 : findF [rl2, rl1] fl2 true = (1, 0) := by kernel_rfl
theorem aw5 : findF [rl2, rl1] fl2 false = (0, 6) := by kernel_rfl
theorem rule1 (w : World) : Calls Try.prog 25 #[.int .i64 (-1), .int .i64 2] w fun e w' => e = .returned (v35 rl1) ∧ Below w.heap.size w w' := redoubtlaw16_rule.calls (-1) 2 _ _ _ _ _ _ _ _ _ _ _ _ _ _ _ _ w (by rfl)
theorem rule2 (w : World) : Calls Try.prog 25 #[.int .i64 17, .int .i64 1] w fun e w' => e = .returned (v35 rl2) ∧ Below w.heap.size w w' := redoubtlaw16_rule.calls 17 1 _ _ _ _ _ _ _ _ _ _ _ _ _ _ _ _ w (by rfl)
set_option maxHeartbeats 1600000 in
set_option maxRecDepth 100000 in
theorem awake_walk (w : World) : Calls Try.prog 14 #[] w fun e w' => e = .returned (.bool true) ∧ Below w.heap.size w w' := by
  obtain ⟨V1, hV1⟩ : ∃ V, v35 rl1 = V := ⟨_, rfl⟩
  obtain ⟨V2, hV2⟩ : ∃ V, v35 rl2 = V := ⟨_, rfl⟩
  have RU1 := Aside0.mk fun W => rule1 W
  have RU2 := Aside0.mk fun W => rule2 W
  have AD1 := Aside0.mk fun {W : World} {base q m : Nat} {v : Value} (h : SpdO W base q m v []) => add_call h (by decide) 0 rl1
  have AD2 := Aside0.mk fun {W : World} {base q m : Nat} {v : Value} (h : SpdO W base q m v [rl1]) => add_call h (by decide) 0 rl2
  rw [hV1] at RU1 AD1
  rw [hV2] at RU2 AD2
  rw [aw1] at AD1
  rw [aw2] at AD2
  clear hV1 hV2
  go_enter Try.func14, Try.ntmps14
  go_wp2_with (fail)
  refine (new_call _).mono ?_
  rintro e w1 ⟨⟨q, m, rfl, hq, ht⟩, hb⟩
  have O1 := Aside0.mk (One.mk ht hb)
  clear hq ht hb
  go_wp2_with (fail)
  refine (RU1.out _).mono ?_
  rintro e w2 ⟨rfl, hb⟩
  have O2 := Aside0.mk (O1.out.step hb)
  clear hb O1
  go_wp2_with (fail)
  refine (AD1.out O2.out.tab).mono ?_
  rintro e w3 ⟨v3, rfl, ht, hu⟩
  have O3 := Aside0.mk (O2.out.turn ht hu)
  clear ht hu O2
  go_wp2_with (fail)
  refine (RU2.out _).mono ?_
  rintro e w4 ⟨rfl, hb⟩
  have O4 := Aside0.mk (O3.out.step hb)
  clear hb O3
  go_wp2_with (fail)
  refine (AD2.out O4.out.tab).mono ?_
  rintro e w5 ⟨v5, rfl, ht, hu⟩
  have O5 := Aside0.mk (O4.out.turn ht hu)
  have HB5 := Aside0.mk O5.out.below
  clear ht hu O4
  go_wp2_with (first | ((with_reducible refine gate_dst (N := 4) rfl ?_); refine box_event ?hg (N := 4) ?hd (cs := #[.string ByteArray.empty, .string ByteArray.empty, .int .i64 0, .int .i64 0, .int .i64 0]) (t := 24) ?hr ?_; (case hd => rfl); (case hg => rfl); (case hr => first | (go_simp; done) | (go_simp; rfl)); intro q4 hq w6 hbox hb; have BKq4 := Aside0.mk hbox; have HQq4 := Aside0.mk (show w.heap.size ≤ q4 from by rw [hq]; exact HB5.out.size); have HB6 := Aside0.mk (HB5.out.trans (hb.mono HB5.out.size)); have HX6 := Aside0.mk hb; have HY4 := Aside0.mk (show w5.heap.size ≤ q4 from by rw [hq]; exact Nat.le_refl _); clear hbox hb hq; have HC6 := Aside0.mk (show Below w5.heap.size w5 w6 from HX6.out); clear HX6) | ((with_reducible refine gate_store (t := 24) (p := 4) rfl ?_); have ca0 : w6.cell? ⟨q4, 0, none⟩ = some (.string ByteArray.empty) := (blk_cell BKq4.out 0).trans rfl; have ca1 : w6.cell? ⟨q4, 1, none⟩ = some (.string ByteArray.empty) := (blk_cell BKq4.out 1).trans rfl; have ca2 : w6.cell? ⟨q4, 2, none⟩ = some (.int .i64 0) := (blk_cell BKq4.out 2).trans rfl; have ca3 : w6.cell? ⟨q4, 3, none⟩ = some (.int .i64 0) := (blk_cell BKq4.out 3).trans rfl; have ca4 : w6.cell? ⟨q4, 4, none⟩ = some (.int .i64 0) := (blk_cell BKq4.out 4).trans rfl; have fa0 : w6.frozen? ⟨q4, 0, none⟩ = false := blk_frozen BKq4.out 0; have fa1 : w6.frozen? ⟨q4, 1, none⟩ = false := blk_frozen BKq4.out 1; have fa2 : w6.frozen? ⟨q4, 2, none⟩ = false := blk_frozen BKq4.out 2; have fa3 : w6.frozen? ⟨q4, 3, none⟩ = false := blk_frozen BKq4.out 3; have fa4 : w6.frozen? ⟨q4, 4, none⟩ = false := blk_frozen BKq4.out 4; refine store_event (t := 24) (p := 4) (v := ?vo4_7_1_n1) (w1 := Cells.setAll w6 q4 0 [.string ⟨#[97, 98, 99, 100]⟩, .string ⟨#[101, 102, 103, 104]⟩, .int .i64 17, .int .i64 1, .int .i64 2]) ?hg ?ho ?hn ?hr ?_; (case ho => rfl); (case hg => rfl); (case hn => rfl); (case hr => first | (go_simp; done) | (go_simp; rfl)); intro w7 hw; have HB7 := Aside0.mk (show Below w.heap.size w w7 from by rw [hw]; exact Cells.setAll_below HQq4.out _ _ _ HB6.out); have BKq4 := Aside0.mk (show w7.heap[q4]? = some (.cells #[.string ⟨#[97, 98, 99, 100]⟩, .string ⟨#[101, 102, 103, 104]⟩, .int .i64 17, .int .i64 1, .int .i64 2] 24 (0, 0)) from by rw [hw]; exact Cells.stored5 BKq4.out); clear ca0 fa0 ca1 fa1 ca2 fa2 ca3 fa3 ca4 fa4; have HC7 := Aside0.mk (show Below w5.heap.size w5 w7 from by rw [hw]; exact Cells.setAll_below HY4.out _ _ _ HC6.out); have y0 : w7.cell? ⟨q4, 0, none⟩ = some (.string ⟨#[97, 98, 99, 100]⟩) := (blk_cell BKq4.out 0).trans rfl; have y1 : w7.cell? ⟨q4, 1, none⟩ = some (.string ⟨#[101, 102, 103, 104]⟩) := (blk_cell BKq4.out 1).trans rfl; have y2 : w7.cell? ⟨q4, 2, none⟩ = some (.int .i64 17) := (blk_cell BKq4.out 2).trans rfl; have y3 : w7.cell? ⟨q4, 3, none⟩ = some (.int .i64 1) := (blk_cell BKq4.out 3).trans rfl; have y4 : w7.cell? ⟨q4, 4, none⟩ = some (.int .i64 2) := (blk_cell BKq4.out 4).trans rfl; clear hw) | ((with_reducible refine gate_dst (N := 5) rfl ?_); refine box_event ?hg (N := 5) ?hd (cs := #[.string ByteArray.empty, .string ByteArray.empty, .int .i64 0, .int .i64 0, .int .i64 0]) (t := 24) ?hr ?_; (case hd => rfl); (case hg => rfl); (case hr => first | (go_simp; done) | (go_simp; rfl)); intro q5 hq w8 hbox hb; have HNq4q5 := Aside0.mk (show q4 ≠ q5 from by have := blk_lt BKq4.out; omega); have BKq4 := Aside0.mk (blk_below BKq4.out hb); have BKq5 := Aside0.mk hbox; have HQq5 := Aside0.mk (show w.heap.size ≤ q5 from by rw [hq]; exact HB7.out.size); have HB8 := Aside0.mk (HB7.out.trans (hb.mono HB7.out.size)); have HC8 := Aside0.mk (HC7.out.trans (hb.mono HC7.out.size)); have HY5 := Aside0.mk (show w5.heap.size ≤ q5 from by rw [hq]; exact HC7.out.size); clear y0 y1 y2 y3 y4 hbox hb hq) | ((with_reducible refine gate_store (t := 24) (p := 5) rfl ?_); have ca0 : w8.cell? ⟨q5, 0, none⟩ = some (.string ByteArray.empty) := (blk_cell BKq5.out 0).trans rfl; have ca1 : w8.cell? ⟨q5, 1, none⟩ = some (.string ByteArray.empty) := (blk_cell BKq5.out 1).trans rfl; have ca2 : w8.cell? ⟨q5, 2, none⟩ = some (.int .i64 0) := (blk_cell BKq5.out 2).trans rfl; have ca3 : w8.cell? ⟨q5, 3, none⟩ = some (.int .i64 0) := (blk_cell BKq5.out 3).trans rfl; have ca4 : w8.cell? ⟨q5, 4, none⟩ = some (.int .i64 0) := (blk_cell BKq5.out 4).trans rfl; have fa0 : w8.frozen? ⟨q5, 0, none⟩ = false := blk_frozen BKq5.out 0; have fa1 : w8.frozen? ⟨q5, 1, none⟩ = false := blk_frozen BKq5.out 1; have fa2 : w8.frozen? ⟨q5, 2, none⟩ = false := blk_frozen BKq5.out 2; have fa3 : w8.frozen? ⟨q5, 3, none⟩ = false := blk_frozen BKq5.out 3; have fa4 : w8.frozen? ⟨q5, 4, none⟩ = false := blk_frozen BKq5.out 4; refine store_event (t := 24) (p := 5) (v := ?vo5_9_2_n2) (w1 := Cells.setAll w8 q5 0 [.string ⟨#[97, 98, 99, 100]⟩, .string ⟨#[101, 102, 103, 104]⟩, .int .i64 17, .int .i64 1, .int .i64 2]) ?hg ?ho ?hn ?hr ?_; (case ho => rfl); (case hg => rfl); (case hn => rfl); (case hr => first | (go_simp; done) | (go_simp; rfl)); intro w9 hw; have BKq4 := Aside0.mk (show w9.heap[q4]? = _ from (congrArg (fun W : World => W.heap[q4]?) hw).trans ((Cells.setAll_far HNq4q5.out _ _ _).trans BKq4.out)); have HB9 := Aside0.mk (show Below w.heap.size w w9 from by rw [hw]; exact Cells.setAll_below HQq5.out _ _ _ HB8.out); have BKq5 := Aside0.mk (show w9.heap[q5]? = some (.cells #[.string ⟨#[97, 98, 99, 100]⟩, .string ⟨#[101, 102, 103, 104]⟩, .int .i64 17, .int .i64 1, .int .i64 2] 24 (0, 0)) from by rw [hw]; exact Cells.stored5 BKq5.out); clear ca0 fa0 ca1 fa1 ca2 fa2 ca3 fa3 ca4 fa4; have HC9 := Aside0.mk (show Below w5.heap.size w5 w9 from by rw [hw]; exact Cells.setAll_below HY5.out _ _ _ HC8.out); clear hw) | ((with_reducible refine gate_store (t := 3) (p := 23) rfl ?_); have ca2 : w9.cell? ⟨q5, 2, none⟩ = some (.int .i64 17) := (blk_cell BKq5.out 2).trans rfl; have fa2 : w9.frozen? ⟨q5, 2, none⟩ = false := blk_frozen BKq5.out 2; refine store_event (t := 3) (p := 23) (v := ?vo23_10_3_n3) (w1 := Cells.setAll w9 q5 2 [.int .i64 6]) ?hg ?ho ?hn ?hr ?_; (case ho => rfl); (case hg => rfl); (case hn => rfl); (case hr => first | (go_simp; done) | (go_simp; rfl)); intro w10 hw; have BKq4 := Aside0.mk (show w10.heap[q4]? = _ from (congrArg (fun W : World => W.heap[q4]?) hw).trans ((Cells.setAll_far HNq4q5.out _ _ _).trans BKq4.out)); have HB10 := Aside0.mk (show Below w.heap.size w w10 from by rw [hw]; exact Cells.setAll_below HQq5.out _ _ _ HB9.out); have BKq5 := Aside0.mk (show w10.heap[q5]? = some (.cells #[.string ⟨#[97, 98, 99, 100]⟩, .string ⟨#[101, 102, 103, 104]⟩, .int .i64 6, .int .i64 1, .int .i64 2] 24 (0, 0)) from by rw [hw]; exact (Cells.setAll_blk _ _ _ _ BKq5.out).trans rfl); clear ca2 fa2; have HC10 := Aside0.mk (show Below w5.heap.size w5 w10 from by rw [hw]; exact Cells.setAll_below HY5.out _ _ _ HC9.out); have y0 : w10.cell? ⟨q4, 0, none⟩ = some (.string ⟨#[97, 98, 99, 100]⟩) := (blk_cell BKq4.out 0).trans rfl; have y1 : w10.cell? ⟨q4, 1, none⟩ = some (.string ⟨#[101, 102, 103, 104]⟩) := (blk_cell BKq4.out 1).trans rfl; have y2 : w10.cell? ⟨q4, 2, none⟩ = some (.int .i64 17) := (blk_cell BKq4.out 2).trans rfl; have y3 : w10.cell? ⟨q4, 3, none⟩ = some (.int .i64 1) := (blk_cell BKq4.out 3).trans rfl; have y4 : w10.cell? ⟨q4, 4, none⟩ = some (.int .i64 2) := (blk_cell BKq4.out 4).trans rfl; clear hw))
  have O10 := Aside0.mk (O5.out.step HC10.out)
  refine (find_call O10.out.tab (by decide) fl1 true).mono ?_
  rintro e w11 ⟨he, ht, hu⟩
  rw [aw3] at he
  subst he
  have BKq4 := Aside0.mk (blk_turn BKq4.out O10.out.tab hu)
  have BKq5 := Aside0.mk (blk_turn BKq5.out O10.out.tab hu)
  have O11 := Aside0.mk (O10.out.turn ht hu)
  clear ht hu
  clear y0 y1 y2 y3 y4
  have z0 : w11.cell? ⟨q5, 0, none⟩ = some (.string ⟨#[97, 98, 99, 100]⟩) := (blk_cell BKq5.out 0).trans rfl; have z1 : w11.cell? ⟨q5, 1, none⟩ = some (.string ⟨#[101, 102, 103, 104]⟩) := (blk_cell BKq5.out 1).trans rfl; have z2 : w11.cell? ⟨q5, 2, none⟩ = some (.int .i64 6) := (blk_cell BKq5.out 2).trans rfl; have z3 : w11.cell? ⟨q5, 3, none⟩ = some (.int .i64 1) := (blk_cell BKq5.out 3).trans rfl; have z4 : w11.cell? ⟨q5, 4, none⟩ = some (.int .i64 2) := (blk_cell BKq5.out 4).trans rfl
  go_wp2_with (fail)
  refine (find_call O11.out.tab (by decide) fl2 true).mono ?_
  rintro e w12 ⟨he, ht, hu⟩
  rw [aw4] at he
  subst he
  have BKq5 := Aside0.mk (blk_turn BKq5.out O11.out.tab hu)
  have O12 := Aside0.mk (O11.out.turn ht hu)
  clear ht hu z0 z1 z2 z3 z4
  have z0 : w12.cell? ⟨q5, 0, none⟩ = some (.string ⟨#[97, 98, 99, 100]⟩) := (blk_cell BKq5.out 0).trans rfl; have z1 : w12.cell? ⟨q5, 1, none⟩ = some (.string ⟨#[101, 102, 103, 104]⟩) := (blk_cell BKq5.out 1).trans rfl; have z2 : w12.cell? ⟨q5, 2, none⟩ = some (.int .i64 6) := (blk_cell BKq5.out 2).trans rfl; have z3 : w12.cell? ⟨q5, 3, none⟩ = some (.int .i64 1) := (blk_cell BKq5.out 3).trans rfl; have z4 : w12.cell? ⟨q5, 4, none⟩ = some (.int .i64 2) := (blk_cell BKq5.out 4).trans rfl
  go_wp2_with (fail)
  refine (find_call O12.out.tab (by decide) fl2 false).mono ?_
  rintro e w13 ⟨he, ht, hu⟩
  rw [aw5] at he
  subst he
  have O13 := Aside0.mk (O12.out.turn ht hu)
  clear ht hu z0 z1 z2 z3 z4
  go_wp2_with (fail)
  refine (list_call O13.out.tab (by decide)).mono ?_
  rintro e w14 ⟨⟨v', rfl, hr⟩, hb⟩
  obtain ⟨A, c, rfl, _, _⟩ := own_slice' (own_of_R hr)
  have HB14 := Aside0.mk (O13.out.step hb).below
  clear hr hb
  go_wp2_with (fail)
  go_ret
  exact ⟨rfl, HB14.out⟩
end Go.Proofs.Ytdpfopeofeofcaa.Sp
