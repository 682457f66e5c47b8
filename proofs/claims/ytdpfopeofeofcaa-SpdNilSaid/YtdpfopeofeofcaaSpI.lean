/- What stays beside a policy; awake. -/
import Derived.Test.YtdpfopeofeofcaaSpH
import Derived.Test.YtdpfopeofeofcaaQSpx32
namespace Go.Proofs.Ytdpfopeofeofcaa.Sp
open Go.RowKit Go.Proofs.YtdpfopeofeofcaaW.PrintWords Go.Proofs.YtdpfopeofeofcaaW.PrintLast Go.Proofs.YtdpfopeofeofcaaW.PrintMore Go.Proofs.Ytdpfopeofeofcaa.QSp
open Go.Proofs.Ytdpfopeofeofcaa
set_option linter.unusedVariables false
set_option linter.unusedSimpArgs false
theorem Turn.below {w0 w w' : World} {q m : Nat} {v v' : Value} {L : List S35} (hb : Below w0.heap.size w0 w) (h : Turn w w' q m v v') (ht : SpdO w w0.heap.size q m v L) : Below w0.heap.size w0 w' :=
  ⟨h.os.trans hb.os, h.tape.trans hb.tape, h.output.trans hb.output, Nat.le_trans hb.size h.size, fun k hk => (h.block k (Nat.lt_of_lt_of_le hk hb.size) (by have := ht.low; omega) (by have := ht.lom; omega) (fun e => by have := own_base ht.own k e.symm; omega)).trans (hb.block k hk)⟩
/-- A policy that was made in the walk. -/
structure One (w0 w : World) (q m : Nat) (v : Value) (L : List S35) : Prop where
  tab : SpdO w w0.heap.size q m v L
  below : Below w0.heap.size w0 w
theorem One.step {w0 w w' : World} {q m : Nat} {v : Value} {L : List S35} (h : One w0 w q m v L) (hb : Below w.heap.size w w') : One w0 w' q m v L := ⟨h.tab.below hb, h.below.trans (hb.mono h.below.size)⟩
theorem One.turn {w0 w w' : World} {q m : Nat} {v v' : Value} {L L' : List S35} (h : One w0 w q m v L) (ht : SpdO w' w0.heap.size q m v' L') (hu : Turn w w' q m v v') : One w0 w' q m v' L' := ⟨ht, hu.below h.below h.tab⟩
theorem blk_turn {w w' : World} {base q m g : Nat} {v v' : Value} {L : List S35} {cs : Array Value} {t : TypeId} (h : w.heap[g]? = some (.cells cs t (0, 0))) (ht : SpdO w base q m v L) (hu : Turn w w' q m v v') (h1 : t ≠ 56 := by decide) (h2 : 35 ≠ t := by decide) : w'.heap[g]? = some (.cells cs t (0, 0)) := by
  obtain ⟨es, c, hm, _⟩ := ht.map
  exact (hu.block g (blk_lt h) (blk_ne h ht.blk h1) (blk_neM h hm) (own_neT ht.own h h2)).trans h
def rl1 : S35 := ⟨0, ⟨⟨ByteArray.empty, ByteArray.empty⟩, ⟨ByteArray.empty, ByteArray.empty⟩, -1, ⟨0, 65535⟩, ⟨0, 65535⟩⟩, true, false, 2, false, ByteArray.empty, ByteArray.empty⟩
def rl2 : S35 := ⟨0, ⟨⟨ByteArray.empty, ByteArray.empty⟩, ⟨ByteArray.empty, ByteArray.empty⟩, 17, ⟨0, 65535⟩, ⟨0, 65535⟩⟩, true, false, 1, false, ByteArray.empty, ByteArray.empty⟩
def fl1 : S24 := ⟨⟨#[97, 98, 99, 100]⟩, ⟨#[101, 102, 103, 104]⟩, 17, 1, 2⟩
def fl2 : S24 := ⟨⟨#[97, 98, 99, 100]⟩, ⟨#[101, 102, 103, 104]⟩, 6, 1, 2⟩
theorem aw1 : addF [] 0 rl1 = ([rl1], 0) := by kernel_rfl
theorem aw2 : addF [rl1] 0 rl2 = ([rl2, rl1], 0) := by kernel_rfl
theorem aw3 : findF [rl2, rl1] fl1 true = (0, 0) := by kernel_rfl
theorem aw4 : findF [rl2, rl1] fl2 true = (1, 0) := by kernel_rfl
theorem aw5 : findF [rl2, rl1] fl2 false = (0, 6) := by kernel_rfl
theorem rule1 (w : World) : Calls Try.prog 25 #[.int .i64 (-1), .int .i64 2] w fun e w' => e = .returned (v35 rl1) ∧ Below w.heap.size w w' := redoubtlaw16_rule.calls (-1) 2 _ _ _ _ _ _ _ _ _ _ _ _ _ _ _ _ w (by rfl)
theorem rule2 (w : World) : Calls Try.prog 25 #[.int .i64 17, .int .i64 1] w fun e w' => e = .returned (v35 rl2) ∧ Below w.heap.size w w' := redoubtlaw16_rule.calls 17 1 _ _ _ _ _ _ _ _ _ _ _ _ _ _ _ _ w (by rfl)
set_option maxHeartbeats 1600000 in
set_option maxRecDepth 100000 in
theorem awake_walk (w : World) : Calls Try.prog 14 #[] w fun e w' => e = .returned (.bool true) ∧ Below w.heap.size w w' := by
  obtain ⟨V1, hV1⟩ : ∃ V, v35 rl1 = V := ⟨_, rfl⟩
  obtain ⟨V2, hV2⟩ : ∃ V, v35 rl2 = V := ⟨_, rfl⟩
  have RU1 := Aside0.mk fun W => rule1 W
  have RU2 := Aside0.mk fun W => rule2 W
  have AD1 := Aside0.mk fun {W : World} {base q m : Nat} {v : Value} (h : SpdO W base q m v []) => add_call h (by decide) 0 rl1
  have AD2 := Aside0.mk fun {W : World} {base q m : Nat} {v : Value} (h : SpdO W base q m v [rl1]) => add_call h (by decide) 0 rl2
  rw [hV1] at RU1 AD1
  rw [hV2] at RU2 AD2
  rw [aw1] at AD1
  rw [aw2] at AD2
  clear hV1 hV2
  go_enter Try.func14, Try.ntmps14
  go_wp2_with (fail)
  refine (new_call _).mono ?_
  rintro e w1 ⟨⟨q, m, rfl, hq, ht⟩, hb⟩
  have O1 := Aside0.mk (One.mk ht hb)
  clear hq ht hb
  go_wp2_with (fail)
  refine (RU1.out _).mono ?_
  rintro e w2 ⟨rfl, hb⟩
  have O2 := Aside0.mk (O1.out.step hb)
  clear hb O1
  go_wp2_with (fail)
  refine (AD1.out O2.out.tab).mono ?_
  rintro e w3 ⟨v3, rfl, ht, hu⟩
  have O3 := Aside0.mk (O2.out.turn ht hu)
  clear ht hu O2
  go_wp2_with (fail)
  refine (RU2.out _).mono ?_
  rintro e w4 ⟨rfl, hb⟩
  have O4 := Aside0.mk (O3.out.step hb)
  clear hb O3
  go_wp2_with (fail)
  refine (AD2.out O4.out.tab).mono ?_
  rintro e w5 ⟨v5, rfl, ht, hu⟩
  have O5 := Aside0.mk (O4.out.turn ht hu)
  have HB5 := Aside0.mk O5.out.below
  clear ht hu O4
  go_wp2_with (first | ((with_reducible refine gate_dst (N := 4) rfl ?_); refine box_event ?hg (N := 4) ?hd (cs := #[.string ByteArray.empty, .string ByteArray.empty, .int .i64 0, .int .i64 0, .int .i64 0]) (t := 24) ?hr ?_; (case hd => rfl); (case hg => rfl); (case hr => first | (go_simp; done) | (go_simp; rfl)); intro q4 hq w6 hbox hb; have BKq4 := Aside0.mk hbox; have HQq4 := Aside0.mk (show w.heap.size ≤ q4 from by rw [hq]; exact HB5.out.size); have HB6 := Aside0.mk (HB5.out.trans (hb.mono HB5.out.size)); have HX6 := Aside0.mk hb; have HY4 := Aside0.mk (show w5.heap.size ≤ q4 from by rw [hq]; exact Nat.le_refl _); clear hbox hb hq; have HC6 := Aside0.mk (show Below w5.heap.size w5 w6 from HX6.out); clear HX6) | ((with_reducible refine gate_store (t := 24) (p := 4) rfl ?_); have ca0 : w6.cell? ⟨q4, 0, none⟩ = some (.string ByteArray.empty) := (blk_cell BKq4.out 0).trans rfl; have ca1 : w6.cell? ⟨q4, 1, none⟩ = some (.string ByteArray.empty) := (blk_cell BKq4.out 1).trans rfl; have ca2 : w6.cell? ⟨q4, 2, none⟩ = some (.int .i64 0) := (blk_cell BKq4.out 2).trans rfl; have ca3 : w6.cell? ⟨q4, 3, none⟩ = some (.int .i64 0) := (blk_cell BKq4.out 3).trans rfl; have ca4 : w6.cell? ⟨q4, 4, none⟩ = some (.int .i64 0) := (blk_cell BKq4.out 4).trans rfl; have fa0 : w6.frozen? ⟨q4, 0, none⟩ = false := blk_frozen BKq4.out 0; have fa1 : w6.frozen? ⟨q4, 1, none⟩ = false := blk_frozen BKq4.out 1; have fa2 : w6.frozen? ⟨q4, 2, none⟩ = false := blk_frozen BKq4.out 2; have fa3 : w6.frozen? ⟨q4, 3, none⟩ = false := blk_frozen BKq4.out 3; have fa4 : w6.frozen? ⟨q4, 4, none⟩ = false := blk_frozen BKq4.out 4; refine store_event (t := 24) (p := 4) (v := ?vo4_7_1_n1) (w1 := Cells.setAll w6 q4 0 [.string ⟨#[97, 98, 99, 100]⟩, .string ⟨#[101, 102, 103, 104]⟩, .int .i64 17, .int .i64 1, .int .i64 2]) ?hg ?ho ?hn ?hr ?_; (case ho => rfl); (case hg => rfl); (case hn => rfl); (case hr => first | (go_simp; done) | (go_simp; rfl)); intro w7 hw; have HB7 := Aside0.mk (show Below w.heap.size w w7 from by rw [hw]; exact Cells.setAll_below HQq4.out _ _ _ HB6.out); have BKq4 := Aside0.mk (show w7.heap[q4]? = some (.cells #[.string ⟨#[97, 98, 99, 100]⟩, .string ⟨#[101, 102, 103, 104]⟩, .int .i64 17, .int .i64 1, .int .i64 2] 24 (0, 0)) from by rw [hw]; exact Cells.stored5 BKq4.out); clear ca0 fa0 ca1 fa1 ca2 fa2 ca3 fa3 ca4 fa4; have HC7 := Aside0.mk (show Below w5.heap.size w5 w7 from by rw [hw]; exact Cells.setAll_below HY4.out _ _ _ HC6.out); have y0 : w7.cell? ⟨q4, 0, none⟩ = some (.string ⟨#[97, 98, 99, 100]⟩) := (blk_cell BKq4.out 0).trans rfl; have y1 : w7.cell? ⟨q4, 1, none⟩ = some (.string ⟨#[101, 102, 103, 104]⟩) := (blk_cell BKq4.out 1).trans rfl; have y2 : w7.cell? ⟨q4, 2, none⟩ = some (.int .i64 17) := (blk_cell BKq4.out 2).trans rfl; have y3 : w7.cell? ⟨q4, 3, none⟩ = some (.int .i64 1) := (blk_cell BKq4.out 3).trans rfl; have y4 : w7.cell? ⟨q4, 4, none⟩ = some (.int .i64 2) := (blk_cell BKq4.out 4).trans rfl; clear hw) | ((with_reducible refine gate_dst (N := 5) rfl ?_); refine box_event ?hg (N := 5) ?hd (cs := #[.string ByteArray.empty, .string ByteArray.empty, .int .i64 0, .int .i64 0, .int .i64 0]) (t := 24) ?hr ?_; (case hd => rfl); (case hg => rfl); (case hr => first | (go_simp; done) | (go_simp; rfl)); intro q5 hq w8 hbox hb; have HNq4q5 := Aside0.mk (show q4 ≠ q5 from by have := blk_lt BKq4.out; omega); have BKq4 := Aside0.mk (blk_below BKq4.out hb); have BKq5 := Aside0.mk hbox; have HQq5 := Aside0.mk (show w.heap.size ≤ q5 from by rw [hq]; exact HB7.out.size); have HB8 := Aside0.mk (HB7.out.trans (hb.mono HB7.out.size)); have HC8 := Aside0.mk (HC7.out.trans (hb.mono HC7.out.size)); have HY5 := Aside0.mk (show w5.heap.size ≤ q5 from by rw [hq]; exact HC7.out.size); clear y0 y1 y2 y3 y4 hbox hb hq) | ((with_reducible refine gate_store (t := 24) (p := 5) rfl ?_); have ca0 : w8.cell? ⟨q5, 0, none⟩ = some (.string ByteArray.empty) := (blk_cell BKq5.out 0).trans rfl; have ca1 : w8.cell? ⟨q5, 1, none⟩ = some (.string ByteArray.empty) := (blk_cell BKq5.out 1).trans rfl; have ca2 : w8.cell? ⟨q5, 2, none⟩ = some (.int .i64 0) := (blk_cell BKq5.out 2).trans rfl; have ca3 : w8.cell? ⟨q5, 3, none⟩ = some (.int .i64 0) := (blk_cell BKq5.out 3).trans rfl; have ca4 : w8.cell? ⟨q5, 4, none⟩ = some (.int .i64 0) := (blk_cell BKq5.out 4).trans rfl; have fa0 : w8.frozen? ⟨q5, 0, none⟩ = false := blk_frozen BKq5.out 0; have fa1 : w8.frozen? ⟨q5, 1, none⟩ = false := blk_frozen BKq5.out 1; have fa2 : w8.frozen? ⟨q5, 2, none⟩ = false := blk_frozen BKq5.out 2; have fa3 : w8.frozen? ⟨q5, 3, none⟩ = false := blk_frozen BKq5.out 3; have fa4 : w8.frozen? ⟨q5, 4, none⟩ = false := blk_frozen BKq5.out 4; refine store_event (t := 24) (p := 5) (v := ?vo5_9_2_n2) (w1 := Cells.setAll w8 q5 0 [.string ⟨#[97, 98, 99, 100]⟩, .string ⟨#[101, 102, 103, 104]⟩, .int .i64 17, .int .i64 1, .int .i64 2]) ?hg ?ho ?hn ?hr ?_; (case ho => rfl); (case hg => rfl); (case hn => rfl); (case hr => first | (go_simp; done) | (go_simp; rfl)); intro w9 hw; have BKq4 := Aside0.mk (show w9.heap[q4]? = _ from (congrArg (fun W : World => W.heap[q4]?) hw).trans ((Cells.setAll_far HNq4q5.out _ _ _).trans BKq4.out)); have HB9 := Aside0.mk (show Below w.heap.size w w9 from by rw [hw]; exact Cells.setAll_below HQq5.out _ _ _ HB8.out); have BKq5 := Aside0.mk (show w9.heap[q5]? = some (.cells #[.string ⟨#[97, 98, 99, 100]⟩, .string ⟨#[101, 102, 103, 104]⟩, .int .i64 17, .int .i64 1, .int .i64 2] 24 (0, 0)) from by rw [hw]; exact Cells.stored5 BKq5.out); clear ca0 fa0 ca1 fa1 ca2 fa2 ca3 fa3 ca4 fa4; have HC9 := Aside0.mk (show Below w5.heap.size w5 w9 from by rw [hw]; exact Cells.setAll_below HY5.out _ _ _ HC8.out); clear hw) | ((with_reducible refine gate_store (t := 3) (p := 23) rfl ?_); have ca2 : w9.cell? ⟨q5, 2, none⟩ = some (.int .i64 17) := (blk_cell BKq5.out 2).trans rfl; have fa2 : w9.frozen? ⟨q5, 2, none⟩ = false := blk_frozen BKq5.out 2; refine store_event (t := 3) (p := 23) (v := ?vo23_10_3_n3) (w1 := Cells.setAll w9 q5 2 [.int .i64 6]) ?hg ?ho ?hn ?hr ?_; (case ho => rfl); (case hg => rfl); (case hn => rfl); (case hr => first | (go_simp; done) | (go_simp; rfl)); intro w10 hw; have BKq4 := Aside0.mk (show w10.heap[q4]? = _ from (congrArg (fun W : World => W.heap[q4]?) hw).trans ((Cells.setAll_far HNq4q5.out _ _ _).trans BKq4.out)); have HB10 := Aside0.mk (show Below w.heap.size w w10 from by rw [hw]; exact Cells.setAll_below HQq5.out _ _ _ HB9.out); have BKq5 := Aside0.mk (show w10.heap[q5]? = some (.cells #[.string ⟨#[97, 98, 99, 100]⟩, .string ⟨#[101, 102, 103, 104]⟩, .int .i64 6, .int .i64 1, .int .i64 2] 24 (0, 0)) from by rw [hw]; exact (Cells.setAll_blk _ _ _ _ BKq5.out).trans rfl); clear ca2 fa2; have HC10 := Aside0.mk (show Below w5.heap.size w5 w10 from by rw [hw]; exact Cells.setAll_below HY5.out _ _ _ HC9.out); have y0 : w10.cell? ⟨q4, 0, none⟩ = some (.string ⟨#[97, 98, 99, 100]⟩) := (blk_cell BKq4.out 0).trans rfl; have y1 : w10.cell? ⟨q4, 1, none⟩ = some (.string ⟨#[101, 102, 103, 104]⟩) := (blk_cell BKq4.out 1).trans rfl; have y2 : w10.cell? ⟨q4, 2, none⟩ = some (.int .i64 17) := (blk_cell BKq4.out 2).trans rfl; have y3 : w10.cell? ⟨q4, 3, none⟩ = some (.int .i64 1) := (blk_cell BKq4.out 3).trans rfl; have y4 : w10.cell? ⟨q4, 4, none⟩ = some (.int .i64 2) := (blk_cell BKq4.out 4).trans rfl; clear hw))
  have O10 := Aside0.mk (O5.out.step HC10.out)
  refine (find_call O10.out.tab (by decide) fl1 true).mono ?_
  rintro e w11 ⟨he, ht, hu⟩
  rw [aw3] at he
  subst he
  have BKq4 := Aside0.mk (blk_turn BKq4.out O10.out.tab hu)
  have BKq5 := Aside0.mk (blk_turn BKq5.out O10.out.tab hu)
  have O11 := Aside0.mk (O10.out.turn ht hu)
  clear ht hu
  clear y0 y1 y2 y3 y4
  have z0 : w11.cell? ⟨q5, 0, none⟩ = some (.string ⟨#[97, 98, 99, 100]⟩) := (blk_cell BKq5.out 0).trans rfl; have z1 : w11.cell? ⟨q5, 1, none⟩ = some (.string ⟨#[101, 102, 103, 104]⟩) := (blk_cell BKq5.out 1).trans rfl; have z2 : w11.cell? ⟨q5, 2, none⟩ = some (.int .i64 6) := (blk_cell BKq5.out 2).trans rfl; have z3 : w11.cell? ⟨q5, 3, none⟩ = some (.int .i64 1) := (blk_cell BKq5.out 3).trans rfl; have z4 : w11.cell? ⟨q5, 4, none⟩ = some (.int .i64 2) := (blk_cell BKq5.out 4).trans rfl
  go_wp2_with (fail)
  refine (find_call O11.out.tab (by decide) fl2 true).mono ?_
  rintro e w12 ⟨he, ht, hu⟩
  rw [aw4] at he
  subst he
  have BKq5 := Aside0.mk (blk_turn BKq5.out O11.out.tab hu)
  have O12 := Aside0.mk (O11.out.turn ht hu)
  clear ht hu z0 z1 z2 z3 z4
  have z0 : w12.cell? ⟨q5, 0, none⟩ = some (.string ⟨#[97, 98, 99, 100]⟩) := (blk_cell BKq5.out 0).trans rfl; have z1 : w12.cell? ⟨q5, 1, none⟩ = some (.string ⟨#[101, 102, 103, 104]⟩) := (blk_cell BKq5.out 1).trans rfl; have z2 : w12.cell? ⟨q5, 2, none⟩ = some (.int .i64 6) := (blk_cell BKq5.out 2).trans rfl; have z3 : w12.cell? ⟨q5, 3, none⟩ = some (.int .i64 1) := (blk_cell BKq5.out 3).trans rfl; have z4 : w12.cell? ⟨q5, 4, none⟩ = some (.int .i64 2) := (blk_cell BKq5.out 4).trans rfl
  go_wp2_with (fail)
  refine (find_call O12.out.tab (by decide) fl2 false).mono ?_
  rintro e w13 ⟨he, ht, hu⟩
  rw [aw5] at he
  subst he
  have O13 := Aside0.mk (O12.out.turn ht hu)
  clear ht hu z0 z1 z2 z3 z4
  go_wp2_with (fail)
  refine (list_call O13.out.tab (by decide)).mono ?_
  rintro e w14 ⟨⟨v', rfl, hr⟩, hb⟩
  obtain ⟨A, c, rfl, _, _⟩ := own_slice' (own_of_R hr)
  have HB14 := Aside0.mk (O13.out.step hb).below
  clear hr hb
  go_wp2_with (fail)
  go_ret
  exact ⟨rfl, HB14.out⟩
end Go.Proofs.Ytdpfopeofeofcaa.Sp
