/- The law RouteNil. -/
import Derived.Test.YtmedkjiabieloaaRtM7
namespace Go.Proofs.Ytmedkjiabieloaa.Rt
open Go.RowKit Go.Proofs.YtmedkjiabieloaaW.PrintWords Go.Proofs.YtmedkjiabieloaaW.PrintLast Go.Proofs.YtmedkjiabieloaaW.PrintMore Go.Proofs.Ytmedkjiabieloaa.QRd
open Go.Proofs.Ytmedkjiabieloaa
set_option linter.unusedVariables false
set_option linter.unusedSimpArgs false
set_option maxHeartbeats 1600000 in
set_option maxRecDepth 100000 in
theorem nil_law (a : ByteArray) (nb : Int) (via : ByteArray) (port : Int) (d : ByteArray) (w : World) (f1 : (Lit.int .i64 nb).wf = true) (f3 : (Lit.int .i64 port).wf = true) (g : a.size ≤ 140737488351232 ∧ via.size ≤ 140737488351232) (gd : d.size ≤ 140737488351232) :
    Calls Try.prog 6 #[.agg #[.string a, .int .i64 nb, .string via, .int .i64 port], .string d] w fun e w' => e = .returned (.bool true) ∧ Below w.heap.size w w' := by
  clear f1 f3 g gd
  go_enter Try.func6, Try.ntmps6
  go_wp2_with (first | ((with_reducible refine gate_dst (N := 2) rfl ?_); refine box_event ?hg (N := 2) ?hd (cs := #[.string a, .int .i64 nb, .string via, .int .i64 port]) (t := 28) ?hr ?_; (case hd => rfl); (case hg => rfl); (case hr => first | (go_simp; done) | (go_simp; rfl)); intro q1 hq w1 hbox hb; have BKq1 := Aside0.mk hbox; have HQq1 := Aside0.mk (show w.heap.size ≤ q1 from by rw [hq]; exact Nat.le_refl _); have HB1 := Aside0.mk hb; clear hbox hb hq))
  refine (find_nil d _).mono ?_
  rintro e w2 ⟨he, hb⟩
  have he : e = .returned (.tuple #[.agg #[.string ByteArray.empty, .int .i64 0, .string ByteArray.empty, .int .i64 0], .int .i64 3]) := he
  subst he
  have BKq1 := Aside0.mk (blk_below BKq1.out hb)
  have HB2 := Aside0.mk (HB1.out.trans (hb.mono HB1.out.size))
  clear hb
  go_wp2_with (first | ((with_reducible refine gate_dst (N := 6) rfl ?_); refine box_event ?hg (N := 6) ?hd (cs := #[.string ByteArray.empty, .int .i64 0, .string ByteArray.empty, .int .i64 0]) (t := 28) ?hr ?_; (case hd => rfl); (case hg => rfl); (case hr => first | (go_simp; done) | (go_simp; rfl)); intro q2 hq w3 hbox hb; have HNq1q2 := Aside0.mk (show q1 ≠ q2 from by have := blk_lt BKq1.out; omega); have BKq1 := Aside0.mk (blk_below BKq1.out hb); have BKq2 := Aside0.mk hbox; have HQq2 := Aside0.mk (show w.heap.size ≤ q2 from by rw [hq]; exact HB2.out.size); have HB3 := Aside0.mk (HB2.out.trans (hb.mono HB2.out.size)); clear hbox hb hq) | ((with_reducible refine gate_store (t := 28) (p := 6) rfl ?_); have ca0 : w3.cell? ⟨q2, 0, none⟩ = some (.string ByteArray.empty) := (blk_cell BKq2.out 0).trans rfl; have ca1 : w3.cell? ⟨q2, 1, none⟩ = some (.int .i64 0) := (blk_cell BKq2.out 1).trans rfl; have ca2 : w3.cell? ⟨q2, 2, none⟩ = some (.string ByteArray.empty) := (blk_cell BKq2.out 2).trans rfl; have ca3 : w3.cell? ⟨q2, 3, none⟩ = some (.int .i64 0) := (blk_cell BKq2.out 3).trans rfl; have fa0 : w3.frozen? ⟨q2, 0, none⟩ = false := blk_frozen BKq2.out 0; have fa1 : w3.frozen? ⟨q2, 1, none⟩ = false := blk_frozen BKq2.out 1; have fa2 : w3.frozen? ⟨q2, 2, none⟩ = false := blk_frozen BKq2.out 2; have fa3 : w3.frozen? ⟨q2, 3, none⟩ = false := blk_frozen BKq2.out 3; refine store_event (t := 28) (p := 6) (v := ?vo6_4_1) (w1 := Cells.setAll w3 q2 0 [.string ByteArray.empty, .int .i64 0, .string ByteArray.empty, .int .i64 0]) ?hg ?ho ?hn ?hr ?_; (case ho => rfl); (case hg => rfl); (case hn => rfl); (case hr => first | (go_simp; done) | (go_simp; rfl)); intro w4 hw; have BKq1 := Aside0.mk (show w4.heap[q1]? = _ from (congrArg (fun W : World => W.heap[q1]?) hw).trans ((Cells.setAll_far HNq1q2.out _ _ _).trans BKq1.out)); have HB4 := Aside0.mk (show Below w.heap.size w w4 from by rw [hw]; exact Cells.setAll_below HQq2.out _ _ _ HB3.out); have BKq2 := Aside0.mk (show w4.heap[q2]? = some (.cells #[.string ByteArray.empty, .int .i64 0, .string ByteArray.empty, .int .i64 0] 28 (0, 0)) from by rw [hw]; exact Cells.stored4 BKq2.out); clear ca0 ca1 ca2 ca3 fa0 fa1 fa2 fa3; clear hw))
  refine (awake_walk _).mono ?_
  rintro e w5 ⟨rfl, hb⟩
  have BKq1 := Aside0.mk (blk_below BKq1.out hb)
  have HB5 := Aside0.mk (HB4.out.trans (hb.mono HB4.out.size))
  clear hb
  have z0 : w5.cell? ⟨q1, 0, none⟩ = some (.string a) := (blk_cell BKq1.out 0).trans rfl; have z1 : w5.cell? ⟨q1, 1, none⟩ = some (.int .i64 nb) := (blk_cell BKq1.out 1).trans rfl; have z2 : w5.cell? ⟨q1, 2, none⟩ = some (.string via) := (blk_cell BKq1.out 2).trans rfl; have z3 : w5.cell? ⟨q1, 3, none⟩ = some (.int .i64 port) := (blk_cell BKq1.out 3).trans rfl
  go_wp2_with (fail)
  refine (add_nil a via nb port _).mono ?_
  rintro e w6 ⟨rfl, hb⟩
  have BKq1 := Aside0.mk (blk_below BKq1.out hb)
  have HB6 := Aside0.mk (HB5.out.trans (hb.mono HB5.out.size))
  clear hb z0 z1 z2 z3
  have z0 : w6.cell? ⟨q1, 0, none⟩ = some (.string a) := (blk_cell BKq1.out 0).trans rfl; have z1 : w6.cell? ⟨q1, 1, none⟩ = some (.int .i64 nb) := (blk_cell BKq1.out 1).trans rfl; have z2 : w6.cell? ⟨q1, 2, none⟩ = some (.string via) := (blk_cell BKq1.out 2).trans rfl; have z3 : w6.cell? ⟨q1, 3, none⟩ = some (.int .i64 port) := (blk_cell BKq1.out 3).trans rfl
  go_wp2_with (fail)
  refine (remove_nil a nb _).mono ?_
  rintro e w7 ⟨rfl, hb⟩
  have HB7 := Aside0.mk (HB6.out.trans (hb.mono HB6.out.size))
  clear hb z0 z1 z2 z3
  go_wp2_with (fail)
  refine (list_nil _).mono ?_
  rintro e w8 ⟨rfl, rfl⟩
  go_wp2_with (fail)
  go_ret
  exact ⟨rfl, HB7.out⟩
end Go.Proofs.Ytmedkjiabieloaa.Rt
