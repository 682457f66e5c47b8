/- Find's closure; slices.IndexFunc. -/
import Derived.Test.YtdpfopeofeofcaaSpF
import Derived.Deep.Slices
namespace Go.Proofs.Ytdpfopeofeofcaa.Sp
open Go.RowKit Go.Proofs.YtdpfopeofeofcaaW.PrintWords Go.Proofs.YtdpfopeofeofcaaW.PrintLast Go.Proofs.YtdpfopeofeofcaaW.PrintMore Go.Proofs.Ytdpfopeofeofcaa.QSp
open Go.Proofs.Ytdpfopeofeofcaa
set_option linter.unusedVariables false
set_option linter.unusedSimpArgs false
/-- A rule in a row, read whole. -/
theorem row35 {W : World} {A : Option Addr} {n : Nat} {xs : List S35} (h : Kd.C k35 W A n xs) (i : Nat) (hi : i < n) :
    ∃ ad, A = some ad ∧ (∀ j u, (enc35 (xs.getD i z35))[j]? = some u → W.cell? (ad.add (i * 16 + j)) = some u) ∧ (loadVar 35 (ad.add (i * 16))).run Try.prog W = .ok (.agg (enc35 (xs.getD i z35)).toArray) W := by
  obtain ⟨ad, c, e, _, hK, hc0⟩ := Kd.C_get h z35 (i : Int) (by omega) (by omega)
  rw [Int.toNat_natCast] at hK hc0
  have hc : ∀ j u, c[j]? = some u → W.cell? (ad.add (i * 16 + j)) = some u := hc0
  obtain rfl : c = enc35 (xs.getD i z35) := k35_open hK
  refine ⟨ad, e, hc, ?_⟩
  have hl := run_loadCells_list (P := Try.prog) W (ad.add (i * 16)) (enc35 (xs.getD i z35)) (fun j v hv => by rw [Deep.add_add]; exact hc j v hv)
  have hs : (enc35 (xs.getD i z35)).length = 16 := rfl
  rw [hs] at hl
  have hi35 := isz35
  cases hq : Try.prog.info? 35 with
  | none => rw [hq] at hi35; cases hi35
  | some inf =>
    have hs : inf.size = 16 := by rw [hq] at hi35; simpa using hi35
    have hagg : (isAgg 35).run Try.prog W = .ok true W := by
      unfold isAgg
      rw [Sem.run_bind, run_underlying Try.underlying35 W]
      rfl
    simp only [loadVar, Sem.run_bind, hagg, sizeOf, typeInfo, hq, hs, hl, Result.andThen_ok, if_true, Sem.run_pure]
    simp [hq, hs, hl]
theorem load_runA {P : Program} {o : Oper} {a : Act} {W : World} (ty : TypeId) (x : Operand) (ad : Addr) (cs : Array Value) (ho : o.op = .load ty x) (hx : a.eval x = .pointer (some ad)) (h : (loadVar ty ad).run P W = .ok (.agg cs) W) : (execOp a.eval o).run P W = .ok (.value (.agg cs)) W := by
  unfold execOp
  simp only [ho, hx, Instr.loadAt, Instr.sureAddr, Sem.run_bind, Sem.run_pure, Result.andThen_ok, h]
set_option maxHeartbeats 1600000 in
set_option maxRecDepth 100000 in
theorem hit_aux (nm : Int) (p : S33) (ou inn : Bool) (ac : Int) (tu : Bool) (se pe : ByteArray) (f : S24) (o : Bool) (b4 b5 : Nat) (w : World) (h4 : w.heap[b4]? = some (.cells #[.string f.f0, .string f.f1, .int .i64 f.f2, .int .i64 f.f3, .int .i64 f.f4] 24 (0, 0))) (h5 : w.heap[b5]? = some (.cells #[.bool o] 4 (0, 0))) :
    Calls Try.prog 21 #[.agg #[.int .i64 nm, .string p.f0.f0, .string p.f0.f1, .string p.f1.f0, .string p.f1.f1, .int .i64 p.f2, .int .i64 p.f3.f0, .int .i64 p.f3.f1, .int .i64 p.f4.f0, .int .i64 p.f4.f1, .bool ou, .bool inn, .int .i64 ac, .bool tu, .string se, .string pe], .pointer (some ⟨b5, 0, none⟩), .pointer (some ⟨b4, 0, none⟩)] w fun e w' => e = .returned (.bool ((o && ou || !o && inn) && matchE p f)) ∧ Below w.heap.size w w' := by
  have MW := Aside0.mk (show ∀ W : World, Calls Try.prog 13 #[.agg #[.string p.f0.f0, .string p.f0.f1, .string p.f1.f0, .string p.f1.f1, .int .i64 p.f2, .int .i64 p.f3.f0, .int .i64 p.f3.f1, .int .i64 p.f4.f0, .int .i64 p.f4.f1], .agg #[.string f.f0, .string f.f1, .int .i64 f.f2, .int .i64 f.f3, .int .i64 f.f4]] W fun e w' => e = .returned (.bool (matchE p f)) ∧ Below W.heap.size W w' from fun W => matches_walk p f W)
  obtain ⟨mb, hmb⟩ : ∃ mb, matchE p f = mb := ⟨_, rfl⟩
  rw [hmb] at MW ⊢
  clear hmb
  have H4 := Aside0.mk h4
  have H5 := Aside0.mk h5
  clear h4 h5
  obtain ⟨⟨p0, p1⟩, ⟨p2, p3⟩, p4, ⟨p5, p6⟩, p7, p8⟩ := p
  obtain ⟨f0, f1, f2, f3, f4⟩ := f
  dsimp only at H4 MW ⊢
  cases o <;> cases ou <;> cases inn
  · go_enter Try.func21, Try.ntmps21
    go_wp2_with (first | ((with_reducible refine gate_dst (N := 3) rfl ?_); refine box_event ?hg (N := 3) ?hd (cs := #[.int .i64 nm, .string p0, .string p1, .string p2, .string p3, .int .i64 p4, .int .i64 p5, .int .i64 p6, .int .i64 p7, .int .i64 p8, .bool false, .bool false, .int .i64 ac, .bool tu, .string se, .string pe]) (t := 35) ?hr ?_; (case hd => rfl); (case hg => rfl); (case hr => first | (go_simp; done) | (go_simp; rfl)); intro q1 hq w1 hbox hb; have BKq1 := Aside0.mk hbox; have HQq1 := Aside0.mk (show w.heap.size ≤ q1 from by rw [hq]; exact Nat.le_refl _); have HB1 := Aside0.mk hb; clear hbox hb hq; have z10 : w1.cell? ⟨q1, 10, none⟩ = some (.bool false) := (blk_cell BKq1.out 10).trans rfl; have z11 : w1.cell? ⟨q1, 11, none⟩ = some (.bool false) := (blk_cell BKq1.out 11).trans rfl; have BK5 := Aside0.mk (blk_below H5.out HB1.out); have BK4 := Aside0.mk (blk_below H4.out HB1.out); have c5 : w1.cell? ⟨b5, 0, none⟩ = some (.bool false) := (blk_cell BK5.out 0).trans rfl; have x0 : w1.cell? ⟨b4, 0, none⟩ = some (.string f0) := (blk_cell BK4.out 0).trans rfl; have x1 : w1.cell? ⟨b4, 1, none⟩ = some (.string f1) := (blk_cell BK4.out 1).trans rfl; have x2 : w1.cell? ⟨b4, 2, none⟩ = some (.int .i64 f2) := (blk_cell BK4.out 2).trans rfl; have x3 : w1.cell? ⟨b4, 3, none⟩ = some (.int .i64 f3) := (blk_cell BK4.out 3).trans rfl; have x4 : w1.cell? ⟨b4, 4, none⟩ = some (.int .i64 f4) := (blk_cell BK4.out 4).trans rfl))
    go_ret
    exact ⟨by simp, HB1.out⟩
  · go_enter Try.func21, Try.ntmps21
    go_wp2_with (first | ((with_reducible refine gate_dst (N := 3) rfl ?_); refine box_event ?hg (N := 3) ?hd (cs := #[.int .i64 nm, .string p0, .string p1, .string p2, .string p3, .int .i64 p4, .int .i64 p5, .int .i64 p6, .int .i64 p7, .int .i64 p8, .bool false, .bool true, .int .i64 ac, .bool tu, .string se, .string pe]) (t := 35) ?hr ?_; (case hd => rfl); (case hg => rfl); (case hr => first | (go_simp; done) | (go_simp; rfl)); intro q1 hq w1 hbox hb; have BKq1 := Aside0.mk hbox; have HQq1 := Aside0.mk (show w.heap.size ≤ q1 from by rw [hq]; exact Nat.le_refl _); have HB1 := Aside0.mk hb; clear hbox hb hq; have z1 : w1.cell? ⟨q1, 1, none⟩ = some (.string p0) := (blk_cell BKq1.out 1).trans rfl; have z2 : w1.cell? ⟨q1, 2, none⟩ = some (.string p1) := (blk_cell BKq1.out 2).trans rfl; have z3 : w1.cell? ⟨q1, 3, none⟩ = some (.string p2) := (blk_cell BKq1.out 3).trans rfl; have z4 : w1.cell? ⟨q1, 4, none⟩ = some (.string p3) := (blk_cell BKq1.out 4).trans rfl; have z5 : w1.cell? ⟨q1, 5, none⟩ = some (.int .i64 p4) := (blk_cell BKq1.out 5).trans rfl; have z6 : w1.cell? ⟨q1, 6, none⟩ = some (.int .i64 p5) := (blk_cell BKq1.out 6).trans rfl; have z7 : w1.cell? ⟨q1, 7, none⟩ = some (.int .i64 p6) := (blk_cell BKq1.out 7).trans rfl; have z8 : w1.cell? ⟨q1, 8, none⟩ = some (.int .i64 p7) := (blk_cell BKq1.out 8).trans rfl; have z9 : w1.cell? ⟨q1, 9, none⟩ = some (.int .i64 p8) := (blk_cell BKq1.out 9).trans rfl; have z10 : w1.cell? ⟨q1, 10, none⟩ = some (.bool false) := (blk_cell BKq1.out 10).trans rfl; have z11 : w1.cell? ⟨q1, 11, none⟩ = some (.bool true) := (blk_cell BKq1.out 11).trans rfl; have BK5 := Aside0.mk (blk_below H5.out HB1.out); have BK4 := Aside0.mk (blk_below H4.out HB1.out); have c5 : w1.cell? ⟨b5, 0, none⟩ = some (.bool false) := (blk_cell BK5.out 0).trans rfl; have x0 : w1.cell? ⟨b4, 0, none⟩ = some (.string f0) := (blk_cell BK4.out 0).trans rfl; have x1 : w1.cell? ⟨b4, 1, none⟩ = some (.string f1) := (blk_cell BK4.out 1).trans rfl; have x2 : w1.cell? ⟨b4, 2, none⟩ = some (.int .i64 f2) := (blk_cell BK4.out 2).trans rfl; have x3 : w1.cell? ⟨b4, 3, none⟩ = some (.int .i64 f3) := (blk_cell BK4.out 3).trans rfl; have x4 : w1.cell? ⟨b4, 4, none⟩ = some (.int .i64 f4) := (blk_cell BK4.out 4).trans rfl))
    refine (MW.out _).mono ?_
    rintro e w2 ⟨rfl, hb⟩
    have HB2 := Aside0.mk (HB1.out.trans (hb.mono HB1.out.size))
    clear hb
    go_wp2_with (fail)
    go_ret
    exact ⟨by simp, HB2.out⟩
  · go_enter Try.func21, Try.ntmps21
    go_wp2_with (first | ((with_reducible refine gate_dst (N := 3) rfl ?_); refine box_event ?hg (N := 3) ?hd (cs := #[.int .i64 nm, .string p0, .string p1, .string p2, .string p3, .int .i64 p4, .int .i64 p5, .int .i64 p6, .int .i64 p7, .int .i64 p8, .bool true, .bool false, .int .i64 ac, .bool tu, .string se, .string pe]) (t := 35) ?hr ?_; (case hd => rfl); (case hg => rfl); (case hr => first | (go_simp; done) | (go_simp; rfl)); intro q1 hq w1 hbox hb; have BKq1 := Aside0.mk hbox; have HQq1 := Aside0.mk (show w.heap.size ≤ q1 from by rw [hq]; exact Nat.le_refl _); have HB1 := Aside0.mk hb; clear hbox hb hq; have z10 : w1.cell? ⟨q1, 10, none⟩ = some (.bool true) := (blk_cell BKq1.out 10).trans rfl; have z11 : w1.cell? ⟨q1, 11, none⟩ = some (.bool false) := (blk_cell BKq1.out 11).trans rfl; have BK5 := Aside0.mk (blk_below H5.out HB1.out); have BK4 := Aside0.mk (blk_below H4.out HB1.out); have c5 : w1.cell? ⟨b5, 0, none⟩ = some (.bool false) := (blk_cell BK5.out 0).trans rfl; have x0 : w1.cell? ⟨b4, 0, none⟩ = some (.string f0) := (blk_cell BK4.out 0).trans rfl; have x1 : w1.cell? ⟨b4, 1, none⟩ = some (.string f1) := (blk_cell BK4.out 1).trans rfl; have x2 : w1.cell? ⟨b4, 2, none⟩ = some (.int .i64 f2) := (blk_cell BK4.out 2).trans rfl; have x3 : w1.cell? ⟨b4, 3, none⟩ = some (.int .i64 f3) := (blk_cell BK4.out 3).trans rfl; have x4 : w1.cell? ⟨b4, 4, none⟩ = some (.int .i64 f4) := (blk_cell BK4.out 4).trans rfl))
    go_ret
    exact ⟨by simp, HB1.out⟩
  · go_enter Try.func21, Try.ntmps21
    go_wp2_with (first | ((with_reducible refine gate_dst (N := 3) rfl ?_); refine box_event ?hg (N := 3) ?hd (cs := #[.int .i64 nm, .string p0, .string p1, .string p2, .string p3, .int .i64 p4, .int .i64 p5, .int .i64 p6, .int .i64 p7, .int .i64 p8, .bool true, .bool true, .int .i64 ac, .bool tu, .string se, .string pe]) (t := 35) ?hr ?_; (case hd => rfl); (case hg => rfl); (case hr => first | (go_simp; done) | (go_simp; rfl)); intro q1 hq w1 hbox hb; have BKq1 := Aside0.mk hbox; have HQq1 := Aside0.mk (show w.heap.size ≤ q1 from by rw [hq]; exact Nat.le_refl _); have HB1 := Aside0.mk hb; clear hbox hb hq; have z1 : w1.cell? ⟨q1, 1, none⟩ = some (.string p0) := (blk_cell BKq1.out 1).trans rfl; have z2 : w1.cell? ⟨q1, 2, none⟩ = some (.string p1) := (blk_cell BKq1.out 2).trans rfl; have z3 : w1.cell? ⟨q1, 3, none⟩ = some (.string p2) := (blk_cell BKq1.out 3).trans rfl; have z4 : w1.cell? ⟨q1, 4, none⟩ = some (.string p3) := (blk_cell BKq1.out 4).trans rfl; have z5 : w1.cell? ⟨q1, 5, none⟩ = some (.int .i64 p4) := (blk_cell BKq1.out 5).trans rfl; have z6 : w1.cell? ⟨q1, 6, none⟩ = some (.int .i64 p5) := (blk_cell BKq1.out 6).trans rfl; have z7 : w1.cell? ⟨q1, 7, none⟩ = some (.int .i64 p6) := (blk_cell BKq1.out 7).trans rfl; have z8 : w1.cell? ⟨q1, 8, none⟩ = some (.int .i64 p7) := (blk_cell BKq1.out 8).trans rfl; have z9 : w1.cell? ⟨q1, 9, none⟩ = some (.int .i64 p8) := (blk_cell BKq1.out 9).trans rfl; have z10 : w1.cell? ⟨q1, 10, none⟩ = some (.bool true) := (blk_cell BKq1.out 10).trans rfl; have z11 : w1.cell? ⟨q1, 11, none⟩ = some (.bool true) := (blk_cell BKq1.out 11).trans rfl; have BK5 := Aside0.mk (blk_below H5.out HB1.out); have BK4 := Aside0.mk (blk_below H4.out HB1.out); have c5 : w1.cell? ⟨b5, 0, none⟩ = some (.bool false) := (blk_cell BK5.out 0).trans rfl; have x0 : w1.cell? ⟨b4, 0, none⟩ = some (.string f0) := (blk_cell BK4.out 0).trans rfl; have x1 : w1.cell? ⟨b4, 1, none⟩ = some (.string f1) := (blk_cell BK4.out 1).trans rfl; have x2 : w1.cell? ⟨b4, 2, none⟩ = some (.int .i64 f2) := (blk_cell BK4.out 2).trans rfl; have x3 : w1.cell? ⟨b4, 3, none⟩ = some (.int .i64 f3) := (blk_cell BK4.out 3).trans rfl; have x4 : w1.cell? ⟨b4, 4, none⟩ = some (.int .i64 f4) := (blk_cell BK4.out 4).trans rfl))
    refine (MW.out _).mono ?_
    rintro e w2 ⟨rfl, hb⟩
    have HB2 := Aside0.mk (HB1.out.trans (hb.mono HB1.out.size))
    clear hb
    go_wp2_with (fail)
    go_ret
    exact ⟨by simp, HB2.out⟩
  · go_enter Try.func21, Try.ntmps21
    go_wp2_with (first | ((with_reducible refine gate_dst (N := 3) rfl ?_); refine box_event ?hg (N := 3) ?hd (cs := #[.int .i64 nm, .string p0, .string p1, .string p2, .string p3, .int .i64 p4, .int .i64 p5, .int .i64 p6, .int .i64 p7, .int .i64 p8, .bool false, .bool false, .int .i64 ac, .bool tu, .string se, .string pe]) (t := 35) ?hr ?_; (case hd => rfl); (case hg => rfl); (case hr => first | (go_simp; done) | (go_simp; rfl)); intro q1 hq w1 hbox hb; have BKq1 := Aside0.mk hbox; have HQq1 := Aside0.mk (show w.heap.size ≤ q1 from by rw [hq]; exact Nat.le_refl _); have HB1 := Aside0.mk hb; clear hbox hb hq; have z10 : w1.cell? ⟨q1, 10, none⟩ = some (.bool false) := (blk_cell BKq1.out 10).trans rfl; have z11 : w1.cell? ⟨q1, 11, none⟩ = some (.bool false) := (blk_cell BKq1.out 11).trans rfl; have BK5 := Aside0.mk (blk_below H5.out HB1.out); have BK4 := Aside0.mk (blk_below H4.out HB1.out); have c5 : w1.cell? ⟨b5, 0, none⟩ = some (.bool true) := (blk_cell BK5.out 0).trans rfl; have x0 : w1.cell? ⟨b4, 0, none⟩ = some (.string f0) := (blk_cell BK4.out 0).trans rfl; have x1 : w1.cell? ⟨b4, 1, none⟩ = some (.string f1) := (blk_cell BK4.out 1).trans rfl; have x2 : w1.cell? ⟨b4, 2, none⟩ = some (.int .i64 f2) := (blk_cell BK4.out 2).trans rfl; have x3 : w1.cell? ⟨b4, 3, none⟩ = some (.int .i64 f3) := (blk_cell BK4.out 3).trans rfl; have x4 : w1.cell? ⟨b4, 4, none⟩ = some (.int .i64 f4) := (blk_cell BK4.out 4).trans rfl))
    go_ret
    exact ⟨by simp, HB1.out⟩
  · go_enter Try.func21, Try.ntmps21
    go_wp2_with (first | ((with_reducible refine gate_dst (N := 3) rfl ?_); refine box_event ?hg (N := 3) ?hd (cs := #[.int .i64 nm, .string p0, .string p1, .string p2, .string p3, .int .i64 p4, .int .i64 p5, .int .i64 p6, .int .i64 p7, .int .i64 p8, .bool false, .bool true, .int .i64 ac, .bool tu, .string se, .string pe]) (t := 35) ?hr ?_; (case hd => rfl); (case hg => rfl); (case hr => first | (go_simp; done) | (go_simp; rfl)); intro q1 hq w1 hbox hb; have BKq1 := Aside0.mk hbox; have HQq1 := Aside0.mk (show w.heap.size ≤ q1 from by rw [hq]; exact Nat.le_refl _); have HB1 := Aside0.mk hb; clear hbox hb hq; have z10 : w1.cell? ⟨q1, 10, none⟩ = some (.bool false) := (blk_cell BKq1.out 10).trans rfl; have z11 : w1.cell? ⟨q1, 11, none⟩ = some (.bool true) := (blk_cell BKq1.out 11).trans rfl; have BK5 := Aside0.mk (blk_below H5.out HB1.out); have BK4 := Aside0.mk (blk_below H4.out HB1.out); have c5 : w1.cell? ⟨b5, 0, none⟩ = some (.bool true) := (blk_cell BK5.out 0).trans rfl; have x0 : w1.cell? ⟨b4, 0, none⟩ = some (.string f0) := (blk_cell BK4.out 0).trans rfl; have x1 : w1.cell? ⟨b4, 1, none⟩ = some (.string f1) := (blk_cell BK4.out 1).trans rfl; have x2 : w1.cell? ⟨b4, 2, none⟩ = some (.int .i64 f2) := (blk_cell BK4.out 2).trans rfl; have x3 : w1.cell? ⟨b4, 3, none⟩ = some (.int .i64 f3) := (blk_cell BK4.out 3).trans rfl; have x4 : w1.cell? ⟨b4, 4, none⟩ = some (.int .i64 f4) := (blk_cell BK4.out 4).trans rfl))
    go_ret
    exact ⟨by simp, HB1.out⟩
  · go_enter Try.func21, Try.ntmps21
    go_wp2_with (first | ((with_reducible refine gate_dst (N := 3) rfl ?_); refine box_event ?hg (N := 3) ?hd (cs := #[.int .i64 nm, .string p0, .string p1, .string p2, .string p3, .int .i64 p4, .int .i64 p5, .int .i64 p6, .int .i64 p7, .int .i64 p8, .bool true, .bool false, .int .i64 ac, .bool tu, .string se, .string pe]) (t := 35) ?hr ?_; (case hd => rfl); (case hg => rfl); (case hr => first | (go_simp; done) | (go_simp; rfl)); intro q1 hq w1 hbox hb; have BKq1 := Aside0.mk hbox; have HQq1 := Aside0.mk (show w.heap.size ≤ q1 from by rw [hq]; exact Nat.le_refl _); have HB1 := Aside0.mk hb; clear hbox hb hq; have z1 : w1.cell? ⟨q1, 1, none⟩ = some (.string p0) := (blk_cell BKq1.out 1).trans rfl; have z2 : w1.cell? ⟨q1, 2, none⟩ = some (.string p1) := (blk_cell BKq1.out 2).trans rfl; have z3 : w1.cell? ⟨q1, 3, none⟩ = some (.string p2) := (blk_cell BKq1.out 3).trans rfl; have z4 : w1.cell? ⟨q1, 4, none⟩ = some (.string p3) := (blk_cell BKq1.out 4).trans rfl; have z5 : w1.cell? ⟨q1, 5, none⟩ = some (.int .i64 p4) := (blk_cell BKq1.out 5).trans rfl; have z6 : w1.cell? ⟨q1, 6, none⟩ = some (.int .i64 p5) := (blk_cell BKq1.out 6).trans rfl; have z7 : w1.cell? ⟨q1, 7, none⟩ = some (.int .i64 p6) := (blk_cell BKq1.out 7).trans rfl; have z8 : w1.cell? ⟨q1, 8, none⟩ = some (.int .i64 p7) := (blk_cell BKq1.out 8).trans rfl; have z9 : w1.cell? ⟨q1, 9, none⟩ = some (.int .i64 p8) := (blk_cell BKq1.out 9).trans rfl; have z10 : w1.cell? ⟨q1, 10, none⟩ = some (.bool true) := (blk_cell BKq1.out 10).trans rfl; have z11 : w1.cell? ⟨q1, 11, none⟩ = some (.bool false) := (blk_cell BKq1.out 11).trans rfl; have BK5 := Aside0.mk (blk_below H5.out HB1.out); have BK4 := Aside0.mk (blk_below H4.out HB1.out); have c5 : w1.cell? ⟨b5, 0, none⟩ = some (.bool true) := (blk_cell BK5.out 0).trans rfl; have x0 : w1.cell? ⟨b4, 0, none⟩ = some (.string f0) := (blk_cell BK4.out 0).trans rfl; have x1 : w1.cell? ⟨b4, 1, none⟩ = some (.string f1) := (blk_cell BK4.out 1).trans rfl; have x2 : w1.cell? ⟨b4, 2, none⟩ = some (.int .i64 f2) := (blk_cell BK4.out 2).trans rfl; have x3 : w1.cell? ⟨b4, 3, none⟩ = some (.int .i64 f3) := (blk_cell BK4.out 3).trans rfl; have x4 : w1.cell? ⟨b4, 4, none⟩ = some (.int .i64 f4) := (blk_cell BK4.out 4).trans rfl))
    refine (MW.out _).mono ?_
    rintro e w2 ⟨rfl, hb⟩
    have HB2 := Aside0.mk (HB1.out.trans (hb.mono HB1.out.size))
    clear hb
    go_wp2_with (fail)
    go_ret
    exact ⟨by simp, HB2.out⟩
  · go_enter Try.func21, Try.ntmps21
    go_wp2_with (first | ((with_reducible refine gate_dst (N := 3) rfl ?_); refine box_event ?hg (N := 3) ?hd (cs := #[.int .i64 nm, .string p0, .string p1, .string p2, .string p3, .int .i64 p4, .int .i64 p5, .int .i64 p6, .int .i64 p7, .int .i64 p8, .bool true, .bool true, .int .i64 ac, .bool tu, .string se, .string pe]) (t := 35) ?hr ?_; (case hd => rfl); (case hg => rfl); (case hr => first | (go_simp; done) | (go_simp; rfl)); intro q1 hq w1 hbox hb; have BKq1 := Aside0.mk hbox; have HQq1 := Aside0.mk (show w.heap.size ≤ q1 from by rw [hq]; exact Nat.le_refl _); have HB1 := Aside0.mk hb; clear hbox hb hq; have z1 : w1.cell? ⟨q1, 1, none⟩ = some (.string p0) := (blk_cell BKq1.out 1).trans rfl; have z2 : w1.cell? ⟨q1, 2, none⟩ = some (.string p1) := (blk_cell BKq1.out 2).trans rfl; have z3 : w1.cell? ⟨q1, 3, none⟩ = some (.string p2) := (blk_cell BKq1.out 3).trans rfl; have z4 : w1.cell? ⟨q1, 4, none⟩ = some (.string p3) := (blk_cell BKq1.out 4).trans rfl; have z5 : w1.cell? ⟨q1, 5, none⟩ = some (.int .i64 p4) := (blk_cell BKq1.out 5).trans rfl; have z6 : w1.cell? ⟨q1, 6, none⟩ = some (.int .i64 p5) := (blk_cell BKq1.out 6).trans rfl; have z7 : w1.cell? ⟨q1, 7, none⟩ = some (.int .i64 p6) := (blk_cell BKq1.out 7).trans rfl; have z8 : w1.cell? ⟨q1, 8, none⟩ = some (.int .i64 p7) := (blk_cell BKq1.out 8).trans rfl; have z9 : w1.cell? ⟨q1, 9, none⟩ = some (.int .i64 p8) := (blk_cell BKq1.out 9).trans rfl; have z10 : w1.cell? ⟨q1, 10, none⟩ = some (.bool true) := (blk_cell BKq1.out 10).trans rfl; have z11 : w1.cell? ⟨q1, 11, none⟩ = some (.bool true) := (blk_cell BKq1.out 11).trans rfl; have BK5 := Aside0.mk (blk_below H5.out HB1.out); have BK4 := Aside0.mk (blk_below H4.out HB1.out); have c5 : w1.cell? ⟨b5, 0, none⟩ = some (.bool true) := (blk_cell BK5.out 0).trans rfl; have x0 : w1.cell? ⟨b4, 0, none⟩ = some (.string f0) := (blk_cell BK4.out 0).trans rfl; have x1 : w1.cell? ⟨b4, 1, none⟩ = some (.string f1) := (blk_cell BK4.out 1).trans rfl; have x2 : w1.cell? ⟨b4, 2, none⟩ = some (.int .i64 f2) := (blk_cell BK4.out 2).trans rfl; have x3 : w1.cell? ⟨b4, 3, none⟩ = some (.int .i64 f3) := (blk_cell BK4.out 3).trans rfl; have x4 : w1.cell? ⟨b4, 4, none⟩ = some (.int .i64 f4) := (blk_cell BK4.out 4).trans rfl))
    refine (MW.out _).mono ?_
    rintro e w2 ⟨rfl, hb⟩
    have HB2 := Aside0.mk (HB1.out.trans (hb.mono HB1.out.size))
    clear hb
    go_wp2_with (fail)
    go_ret
    exact ⟨by simp, HB2.out⟩
theorem hit_walk (r : S35) (f : S24) (o : Bool) (b4 b5 : Nat) (w : World) (h4 : w.heap[b4]? = some (.cells #[.string f.f0, .string f.f1, .int .i64 f.f2, .int .i64 f.f3, .int .i64 f.f4] 24 (0, 0))) (h5 : w.heap[b5]? = some (.cells #[.bool o] 4 (0, 0))) :
    Calls Try.prog 21 #[.agg (enc35 r).toArray, .pointer (some ⟨b5, 0, none⟩), .pointer (some ⟨b4, 0, none⟩)] w fun e w' => e = .returned (.bool (hitB f o r)) ∧ Below w.heap.size w w' :=
  hit_aux r.f0 r.f1 r.f2 r.f3 r.f4 r.f5 r.f6 r.f7 f o b4 b5 w h4 h5
/-- The closure as a value. -/
def fV (b5 b4 : Nat) : Value := .func (.func 21) #[] #[.pointer (some ⟨b5, 0, none⟩), .pointer (some ⟨b4, 0, none⟩)]
theorem idx_none {l : List S35} {f : S24} {o : Bool} (h : ∀ i, i < l.length → hitB f o (l.getD i z35) = false) : idxF l f o = -1 := by
  unfold idxF
  rw [if_neg]
  intro hlt
  have h1 := List.findIdx_getElem (w := hlt)
  have h2 := h _ hlt
  rw [List.getD_eq_getElem?_getD, List.getElem?_eq_getElem hlt] at h2
  simp only [Option.getD_some] at h2
  rw [h2] at h1
  cases h1
theorem idx_some {l : List S35} {f : S24} {o : Bool} {i : Nat} (hi : i < l.length) (h : ∀ j, j < i → hitB f o (l.getD j z35) = false) (h1 : hitB f o (l.getD i z35) = true) : idxF l f o = (i : Int) := by
  have e : l.findIdx (hitB f o) = i := by
    rw [List.findIdx_eq hi]
    refine ⟨?_, fun j hj => ?_⟩
    · rw [List.getD_eq_getElem?_getD, List.getElem?_eq_getElem hi] at h1
      exact h1
    · have h2 := h j hj
      rw [List.getD_eq_getElem?_getD, List.getElem?_eq_getElem (Nat.lt_trans hj hi)] at h2
      exact h2
  unfold idxF
  rw [e, if_pos hi]
set_option maxHeartbeats 1600000 in
set_option maxRecDepth 100000 in
theorem index_walk (A : Option Addr) (c : Nat) (l : List S35) (f : S24) (o : Bool) (b4 b5 : Nat) (w : World) (hr : Kd.C k35 w A l.length l) (hl : l.length ≤ 1000) (h4 : w.heap[b4]? = some (.cells #[.string f.f0, .string f.f1, .int .i64 f.f2, .int .i64 f.f3, .int .i64 f.f4] 24 (0, 0))) (h5 : w.heap[b5]? = some (.cells #[.bool o] 4 (0, 0))) :
    Calls Try.prog 20 #[.slice A l.length c, fV b5 b4] w fun e w' => e = .returned (.int .i64 (idxF l f o)) ∧ Below w.heap.size w w' := by
  have HR := Aside0.mk fun (W : World) (hb : Below w.heap.size w W) => Kd.C_below hr hb
  have HW := Aside0.mk fun (r : S35) (W : World) (hb : Below w.heap.size w W) => hit_walk r f o b4 b5 W (blk_below h4 hb) (blk_below h5 hb)
  have HNO := Aside0.mk (@idx_none l f o)
  have HSO := Aside0.mk (@idx_some l f o)
  obtain ⟨n, hn⟩ : ∃ n, l.length = n := ⟨_, rfl⟩
  have HB := Aside0.mk (Below.refl w.heap.size w)
  unfold fV
  rw [hn] at hl HR HNO HSO ⊢
  clear hr hn h4 h5
  go_enter Try.func20, Try.ntmps20
  go_wp2_with (fail)
  go_loopw [8] (fun iv wr => ∃ i : Nat, i ≤ n ∧ iv = .int .i64 i ∧ Aside0 (∀ j, j < i → hitB f o (l.getD j z35) = false) ∧ Aside0 (Below w.heap.size w wr)) (fun iv _ => n - (intOf iv).toNat)
  case atStart => exact ⟨0, by omega, rfl, ⟨fun j hj => by omega⟩, HB⟩
  case round =>
    clear HB
    obtain ⟨i, hin, rfl, HI, HB⟩ := hrel
    by_cases hlt : i < n
    · have hd : decide ((i : Int) < (n : Int)) = true := decide_eq_true (by omega)
      have hd' : decide (i < n) = true := decide_eq_true hlt
      obtain ⟨ad, hA, _, LD⟩ := row35 (HR.out _ HB.out) i hlt
      subst hA
      obtain ⟨CS, hCS⟩ : ∃ CS, (enc35 (l.getD i z35)).toArray = CS := ⟨_, rfl⟩
      have HX := Aside0.mk (HW.out (l.getD i z35))
      rw [hCS] at LD HX
      clear hCS
      obtain ⟨hb, hhb⟩ : ∃ hb, hitB f o (l.getD i z35) = hb := ⟨_, rfl⟩
      have HH := Aside0.mk hhb
      rw [hhb] at HX
      clear hhb
      have hi1 : IntKind.i64.wrap ((i : Int) + 1) = ((i + 1 : Nat) : Int) := by rw [IntWalk.i64_in _ (by omega)]; omega
      go_wp2_with (first | ((with_reducible refine gate_dst (N := 15) rfl ?_); refine Kd.event_run (v := .agg CS) (w1 := wr) ?hg (load_runA 35 (.tmp 14) (ad.add (i * 16)) CS ?ho ?hx LD) ?_; (case hg => rfl); (case ho => rfl); (case hx => rfl); clear LD))
      refine (HX.out wr HB.out).mono ?_
      rintro e w2 ⟨rfl, hb2⟩
      have HB2 := Aside0.mk (HB.out.trans (hb2.mono HB.out.size))
      clear hb2
      cases hb
      · go_wp2_with (fail)
        go_roundw
        case rel =>
          refine ⟨i + 1, by omega, by go_num, ⟨fun j hj => ?_⟩, HB2⟩
          rcases Nat.lt_succ_iff_lt_or_eq.1 hj with h | rfl
          · exact HI.out j h
          · exact HH.out
        case measure => simp [intOf]; omega
      · go_wp2_with (fail)
        go_ret
        exact ⟨by rw [HSO.out hlt HI.out HH.out] <;> rfl, HB2.out⟩
    · have hd : decide ((i : Int) < (n : Int)) = false := decide_eq_false (by omega)
      have hd' : decide (i < n) = false := decide_eq_false hlt
      go_wp2_with (fail)
      go_ret
      exact ⟨by rw [HNO.out (fun j hj => HI.out j (by omega))] <;> rfl, HB.out⟩
end Go.Proofs.Ytdpfopeofeofcaa.Sp
