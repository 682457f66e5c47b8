/- The law Ip6Parses. -/
import Derived.Test.YtpodidgdlcfaeaaIp6U
namespace Go.Proofs.Ytpodidgdlcfaeaa.Ip6
open Go.RowKit Go.Proofs.YtpodidgdlcfaeaaW.PrintWords Go.Proofs.YtpodidgdlcfaeaaW.PrintLast Go.Proofs.YtpodidgdlcfaeaaW.PrintMore Go.Proofs.Ytpodidgdlcfaeaa.PIp6Lays
open Go.Proofs.Ytpodidgdlcfaeaa
set_option linter.unusedVariables false
set_option linter.unusedSimpArgs false
set_option maxHeartbeats 8000000 in
set_option maxRecDepth 100000 in
theorem parses_core (A0 : Option Addr) (c0 : Nat) (b : List Int) (w : World) (hr : ReadsInt w .u8 A0 b.length b) (hc : b.length ≤ c0) (hby : ∀ x ∈ b, 0 ≤ x ∧ x ≤ 255) :
    Calls Try.prog 3 #[.slice A0 b.length c0] w fun e w' => e = .returned (.bool true) ∧ Below w.heap.size w w' := by
  by_cases h4 : 4000 < b.length
  · have d4 : decide ((4000 : Int) < (b.length : Int)) = true := decide_eq_true (by omega)
    clear h4
    go_enter Try.func3, Try.ntmps3
    go_wp2_with (fail)
    go_ret
    exact ⟨rfl, Below.refl _ _⟩
  have d4 : decide ((4000 : Int) < (b.length : Int)) = false := decide_eq_false (by omega)
  have AW := Aside0.mk awake_walk
  have HRB := Aside0.mk fun (W : World) (hb : Below w.heap.size w W) => readsInt_below hr hb
  have RP := Aside0.mk fun (W : World) (hb : Below w.heap.size w W) => refParse_walk A0 c0 b W (readsInt_below hr hb) hc (by omega) hby
  have PW := Aside0.mk fun (B : Option Addr) (d : Nat) (W : World) (h : ReadsInt W .u8 B b.length b) (hd : b.length ≤ d) => parse_walk' B d b W h hd (by omega) hby
  have LR := Aside0.mk (laid_read b hby (by omega))
  have HCB := Aside0.mk hc
  obtain ⟨⟨f, q⟩, hfq⟩ : ∃ x, parseE b = x := ⟨_, rfl⟩
  unfold RefP at RP
  rw [hfq] at PW LR RP
  simp only at PW LR RP
  have HEX := Aside0.mk (show q.ex.length ≤ 100000 from by
    by_cases h0 : f = 0
    · have := (LR.out.1 h0).1.ex
      omega
    · have := LR.out.2 h0
      rw [this]
      decide)
  obtain ⟨n, hn⟩ : ∃ n, b.length = n := ⟨_, rfl⟩
  have HN := Aside0.mk hn
  rw [hn] at PW RP HRB HCB d4 h4 ⊢
  clear hr hc hby hfq hn LR
  have SM := Aside0.mk fun (D5 D7 F5 F7 : Option Addr) (e5 e7 g5 g7 : Nat) (W : World) (h1 : PkR W q D5 e5 D7 e7) (h2 : PkR W q F5 g5 F7 g7) => same_walk q D5 D7 F5 F7 e5 e7 g5 g7 HEX.out W h1 h2
  obtain ⟨qcls, qlab, qhop, qsrc, qdst, qex, qnxt, qdat⟩ := q
  go_enter Try.func3, Try.ntmps3
  go_wp2_with (first | ((with_reducible refine gate_dst (N := 12) rfl ?_); refine make_event ?hg (N := 12) ?hd (cs := #[.slice A0 n c0]) (t := 22) (n := 1) (c := 1) ?hr ?_; (case hd => rfl); (case hg => rfl); (case hr => first | (go_simp; done) | (go_simp; rfl)); intro q7 hq w1 hbox hb; have BKq7 := Aside0.mk hbox; have HQq7 := Aside0.mk (show w.heap.size ≤ q7 from by rw [hq]; exact Nat.le_refl _); have HB1 := Aside0.mk hb; have BW := Aside0.mk (both_walk _ 1 [b] w1 (by simp) (by simp; have := HN.out; omega) (C_one (by rw [HN.out]; exact BKq7.out) (Kd.C_of_reads (enc := Value.int .u8) (d := (0 : Int)) (h1 := fun _ => rfl) (by rw [HN.out]; exact HRB.out _ HB1.out)) (by rw [HN.out]; exact HCB.out)) (by simp)); clear hbox hb hq))
  refine BW.out.mono ?_
  rintro e w2 ⟨v8, rfl, ho, hb⟩
  have hfl : [b].flatten = b := (by simp)
  rw [hfl] at ho
  obtain ⟨B, d, hv8, hl7, hC⟩ := Kd.R_reads ho
  subst hv8
  have HD := Aside0.mk fun (W : World) (hW : Below w2.heap.size w2 W) => readsInt_below (Kd.reads_of_C (enc := Value.int .u8) (d := (0 : Int)) (h1 := fun _ => rfl) hC) hW
  have HB2 := Aside0.mk (HB1.out.trans (hb.mono HB1.out.size))
  rw [HN.out] at HD hl7 ⊢
  have PW := Aside0.mk (PW.out B d w2 (HD.out _ (Below.refl _ _)) hl7)
  clear ho hb hfl hl7 hC BW
  go_wp2_with (fail)
  refine PW.out.mono ?_
  rintro e w3 ⟨⟨D5, e5, D7, e7, rfl, hpk⟩, hb⟩
  have HPK := Aside0.mk fun (W : World) (hW : Below w3.heap.size w3 W) => hpk.below hW
  have HB3 := Aside0.mk (HB2.out.trans (hb.mono HB2.out.size))
  have HU3 := Aside0.mk hb
  clear hb hpk PW
  go_wp2_with (first | ((with_reducible refine gate_dst (N := 4) rfl ?_); refine box_event ?hg (N := 4) ?hd (cs := #[.int .i64 0, .int .i64 0, .int .i64 0, .string ByteArray.empty, .string ByteArray.empty, .slice none 0 0, .int .i64 0, .slice none 0 0]) (t := 26) ?hr ?_; (case hd => rfl); (case hg => rfl); (case hr => first | (go_simp; done) | (go_simp; rfl)); intro q4 hq w4 hbox hb; have BKq4 := Aside0.mk hbox; have HQq4 := Aside0.mk (show w.heap.size ≤ q4 from by rw [hq]; exact HB3.out.size); have HB4 := Aside0.mk (HB3.out.trans (hb.mono HB3.out.size)); have HT4 := Aside0.mk hb; have HTp := Aside0.mk (show w3.heap.size ≤ q4 from by rw [hq]; exact Nat.le_refl _); clear hbox hb hq) | ((with_reducible refine gate_store (t := 26) (p := 4) rfl ?_); have ca0 : w4.cell? ⟨q4, 0, none⟩ = some (.int .i64 0) := (blk_cell BKq4.out 0).trans rfl; have ca1 : w4.cell? ⟨q4, 1, none⟩ = some (.int .i64 0) := (blk_cell BKq4.out 1).trans rfl; have ca2 : w4.cell? ⟨q4, 2, none⟩ = some (.int .i64 0) := (blk_cell BKq4.out 2).trans rfl; have ca3 : w4.cell? ⟨q4, 3, none⟩ = some (.string ByteArray.empty) := (blk_cell BKq4.out 3).trans rfl; have ca4 : w4.cell? ⟨q4, 4, none⟩ = some (.string ByteArray.empty) := (blk_cell BKq4.out 4).trans rfl; have ca5 : w4.cell? ⟨q4, 5, none⟩ = some (.slice none 0 0) := (blk_cell BKq4.out 5).trans rfl; have ca6 : w4.cell? ⟨q4, 6, none⟩ = some (.int .i64 0) := (blk_cell BKq4.out 6).trans rfl; have ca7 : w4.cell? ⟨q4, 7, none⟩ = some (.slice none 0 0) := (blk_cell BKq4.out 7).trans rfl; have fa0 : w4.frozen? ⟨q4, 0, none⟩ = false := blk_frozen BKq4.out 0; have fa1 : w4.frozen? ⟨q4, 1, none⟩ = false := blk_frozen BKq4.out 1; have fa2 : w4.frozen? ⟨q4, 2, none⟩ = false := blk_frozen BKq4.out 2; have fa3 : w4.frozen? ⟨q4, 3, none⟩ = false := blk_frozen BKq4.out 3; have fa4 : w4.frozen? ⟨q4, 4, none⟩ = false := blk_frozen BKq4.out 4; have fa5 : w4.frozen? ⟨q4, 5, none⟩ = false := blk_frozen BKq4.out 5; have fa6 : w4.frozen? ⟨q4, 6, none⟩ = false := blk_frozen BKq4.out 6; have fa7 : w4.frozen? ⟨q4, 7, none⟩ = false := blk_frozen BKq4.out 7; refine store_event (t := 26) (p := 4) (v := ?vo4_5_1) (w1 := Cells.setAll w4 q4 0 [.int .i64 qcls, .int .i64 qlab, .int .i64 qhop, .string qsrc, .string qdst, .slice D5 qex.length e5, .int .i64 qnxt, .slice D7 qdat.length e7]) ?hg ?ho ?hn ?hr ?_; (case ho => rfl); (case hg => rfl); (case hn => rfl); (case hr => first | (go_simp; done) | (go_simp; rfl)); intro w5 hw; have HB5 := Aside0.mk (show Below w.heap.size w w5 from by rw [hw]; exact Cells.setAll_below HQq4.out _ _ _ HB4.out); have BKq4 := Aside0.mk (show w5.heap[q4]? = some (.cells #[.int .i64 qcls, .int .i64 qlab, .int .i64 qhop, .string qsrc, .string qdst, .slice D5 qex.length e5, .int .i64 qnxt, .slice D7 qdat.length e7] 26 (0, 0)) from by rw [hw]; exact Cells.stored8 BKq4.out); clear ca0 ca1 ca2 ca3 ca4 ca5 ca6 ca7; clear fa0 fa1 fa2 fa3 fa4 fa5 fa6 fa7; have HT5 := Aside0.mk (show Below w3.heap.size w3 w5 from by rw [hw]; exact Cells.setAll_below HTp.out _ _ _ HT4.out); clear hw))
  refine (RP.out _ HB5.out).mono ?_
  rintro e w6 ⟨⟨F5, g5, F7, g7, rfl, hpk⟩, hb⟩
  have HPK2 := Aside0.mk fun (W : World) (hW : Below w6.heap.size w6 W) => hpk.below hW
  have BKq4 := Aside0.mk (blk_below BKq4.out hb)
  have HB6 := Aside0.mk (HB5.out.trans (hb.mono HB5.out.size))
  have HT6 := Aside0.mk (HT5.out.trans (hb.mono HT5.out.size))
  clear hb hpk RP
  go_wp2_with (first | ((with_reducible refine gate_dst (N := 6) rfl ?_); refine box_event ?hg (N := 6) ?hd (cs := #[.int .i64 0, .int .i64 0, .int .i64 0, .string ByteArray.empty, .string ByteArray.empty, .slice none 0 0, .int .i64 0, .slice none 0 0]) (t := 26) ?hr ?_; (case hd => rfl); (case hg => rfl); (case hr => first | (go_simp; done) | (go_simp; rfl)); intro q6 hq w7 hbox hb; have HNq4q6 := Aside0.mk (show q4 ≠ q6 from by have := blk_lt BKq4.out; omega); have BKq4 := Aside0.mk (blk_below BKq4.out hb); have BKq6 := Aside0.mk hbox; have HQq6 := Aside0.mk (show w.heap.size ≤ q6 from by rw [hq]; exact HB6.out.size); have HB7 := Aside0.mk (HB6.out.trans (hb.mono HB6.out.size)); have HV7 := Aside0.mk hb; have HVp := Aside0.mk (show w6.heap.size ≤ q6 from by rw [hq]; exact Nat.le_refl _); clear hbox hb hq) | ((with_reducible refine gate_store (t := 26) (p := 6) rfl ?_); have ca0 : w7.cell? ⟨q6, 0, none⟩ = some (.int .i64 0) := (blk_cell BKq6.out 0).trans rfl; have ca1 : w7.cell? ⟨q6, 1, none⟩ = some (.int .i64 0) := (blk_cell BKq6.out 1).trans rfl; have ca2 : w7.cell? ⟨q6, 2, none⟩ = some (.int .i64 0) := (blk_cell BKq6.out 2).trans rfl; have ca3 : w7.cell? ⟨q6, 3, none⟩ = some (.string ByteArray.empty) := (blk_cell BKq6.out 3).trans rfl; have ca4 : w7.cell? ⟨q6, 4, none⟩ = some (.string ByteArray.empty) := (blk_cell BKq6.out 4).trans rfl; have ca5 : w7.cell? ⟨q6, 5, none⟩ = some (.slice none 0 0) := (blk_cell BKq6.out 5).trans rfl; have ca6 : w7.cell? ⟨q6, 6, none⟩ = some (.int .i64 0) := (blk_cell BKq6.out 6).trans rfl; have ca7 : w7.cell? ⟨q6, 7, none⟩ = some (.slice none 0 0) := (blk_cell BKq6.out 7).trans rfl; have fa0 : w7.frozen? ⟨q6, 0, none⟩ = false := blk_frozen BKq6.out 0; have fa1 : w7.frozen? ⟨q6, 1, none⟩ = false := blk_frozen BKq6.out 1; have fa2 : w7.frozen? ⟨q6, 2, none⟩ = false := blk_frozen BKq6.out 2; have fa3 : w7.frozen? ⟨q6, 3, none⟩ = false := blk_frozen BKq6.out 3; have fa4 : w7.frozen? ⟨q6, 4, none⟩ = false := blk_frozen BKq6.out 4; have fa5 : w7.frozen? ⟨q6, 5, none⟩ = false := blk_frozen BKq6.out 5; have fa6 : w7.frozen? ⟨q6, 6, none⟩ = false := blk_frozen BKq6.out 6; have fa7 : w7.frozen? ⟨q6, 7, none⟩ = false := blk_frozen BKq6.out 7; refine store_event (t := 26) (p := 6) (v := ?vo6_8_2) (w1 := Cells.setAll w7 q6 0 [.int .i64 qcls, .int .i64 qlab, .int .i64 qhop, .string qsrc, .string qdst, .slice F5 qex.length g5, .int .i64 qnxt, .slice F7 qdat.length g7]) ?hg ?ho ?hn ?hr ?_; (case ho => rfl); (case hg => rfl); (case hn => rfl); (case hr => first | (go_simp; done) | (go_simp; rfl)); intro w8 hw; have BKq4 := Aside0.mk (show w8.heap[q4]? = _ from (congrArg (fun W : World => W.heap[q4]?) hw).trans ((Cells.setAll_far HNq4q6.out _ _ _).trans BKq4.out)); have HB8 := Aside0.mk (show Below w.heap.size w w8 from by rw [hw]; exact Cells.setAll_below HQq6.out _ _ _ HB7.out); have BKq6 := Aside0.mk (show w8.heap[q6]? = some (.cells #[.int .i64 qcls, .int .i64 qlab, .int .i64 qhop, .string qsrc, .string qdst, .slice F5 qex.length g5, .int .i64 qnxt, .slice F7 qdat.length g7] 26 (0, 0)) from by rw [hw]; exact Cells.stored8 BKq6.out); clear ca0 ca1 ca2 ca3 ca4 ca5 ca6 ca7; clear fa0 fa1 fa2 fa3 fa4 fa5 fa6 fa7; have HV8 := Aside0.mk (show Below w6.heap.size w6 w8 from by rw [hw]; exact Cells.setAll_below HVp.out _ _ _ HV7.out); clear hw))
  refine (AW.out _).mono ?_
  rintro e w9 ⟨rfl, hb⟩
  have BKq4 := Aside0.mk (blk_below BKq4.out hb)
  have BKq6 := Aside0.mk (blk_below BKq6.out hb)
  have HB9 := Aside0.mk (HB8.out.trans (hb.mono HB8.out.size))
  have HV9 := Aside0.mk (HV8.out.trans (hb.mono HV8.out.size))
  have HT9 := Aside0.mk (HT6.out.trans (HV9.out.mono HT6.out.size))
  have HW9 := Aside0.mk (HU3.out.trans (HT9.out.mono HU3.out.size))
  have cv1 := string_of_reads (P := Try.prog) (c := d) Try.underlying22 Try.underlying5 Try.underlying9 (HD.out _ HW9.out)
  have cv2 := string_of_reads (P := Try.prog) (c := c0) Try.underlying22 Try.underlying5 Try.underlying9 (HRB.out _ HB9.out)
  have SM := Aside0.mk (SM.out D5 D7 F5 F7 e5 e7 g5 g7 w9 (HPK.out _ HT9.out) (HPK2.out _ HV9.out))
  clear hb
  have ca0 : w9.cell? ⟨q4, 0, none⟩ = some (.int .i64 qcls) := (blk_cell BKq4.out 0).trans rfl
  have ca1 : w9.cell? ⟨q4, 1, none⟩ = some (.int .i64 qlab) := (blk_cell BKq4.out 1).trans rfl
  have ca2 : w9.cell? ⟨q4, 2, none⟩ = some (.int .i64 qhop) := (blk_cell BKq4.out 2).trans rfl
  have ca3 : w9.cell? ⟨q4, 3, none⟩ = some (.string qsrc) := (blk_cell BKq4.out 3).trans rfl
  have ca4 : w9.cell? ⟨q4, 4, none⟩ = some (.string qdst) := (blk_cell BKq4.out 4).trans rfl
  have ca5 : w9.cell? ⟨q4, 5, none⟩ = some (.slice D5 qex.length e5) := (blk_cell BKq4.out 5).trans rfl
  have ca6 : w9.cell? ⟨q4, 6, none⟩ = some (.int .i64 qnxt) := (blk_cell BKq4.out 6).trans rfl
  have ca7 : w9.cell? ⟨q4, 7, none⟩ = some (.slice D7 qdat.length e7) := (blk_cell BKq4.out 7).trans rfl
  have cb0 : w9.cell? ⟨q6, 0, none⟩ = some (.int .i64 qcls) := (blk_cell BKq6.out 0).trans rfl
  have cb1 : w9.cell? ⟨q6, 1, none⟩ = some (.int .i64 qlab) := (blk_cell BKq6.out 1).trans rfl
  have cb2 : w9.cell? ⟨q6, 2, none⟩ = some (.int .i64 qhop) := (blk_cell BKq6.out 2).trans rfl
  have cb3 : w9.cell? ⟨q6, 3, none⟩ = some (.string qsrc) := (blk_cell BKq6.out 3).trans rfl
  have cb4 : w9.cell? ⟨q6, 4, none⟩ = some (.string qdst) := (blk_cell BKq6.out 4).trans rfl
  have cb5 : w9.cell? ⟨q6, 5, none⟩ = some (.slice F5 qex.length g5) := (blk_cell BKq6.out 5).trans rfl
  have cb6 : w9.cell? ⟨q6, 6, none⟩ = some (.int .i64 qnxt) := (blk_cell BKq6.out 6).trans rfl
  have cb7 : w9.cell? ⟨q6, 7, none⟩ = some (.slice F7 qdat.length g7) := (blk_cell BKq6.out 7).trans rfl
  go_wp2_with (fail)
  refine SM.out.mono ?_
  rintro e w10 ⟨rfl, hb⟩
  have HB10 := Aside0.mk (HB9.out.trans (hb.mono HB9.out.size))
  clear hb cv1 cv2
  clear ca0 ca1 ca2 ca3 ca4 ca5 ca6 ca7
  clear cb0 cb1 cb2 cb3 cb4 cb5 cb6 cb7
  go_wp2_with (fail)
  go_ret
  exact ⟨rfl, HB10.out⟩
theorem parses_walk {H : Type} {enc : TypeId × Value → H} {d1 : DataW H} {ps : List MemPlace} (b0 : Option Addr) (bn bc : Nat) (W : World)
    (kb : DataW.Trod enc Try.prog W 0 (fun _ => true) true 22 (.slice b0 bn bc) d1 ps) (wb : ∀ n ∈ d1.weights Try.prog 22, n ≤ 140737488351232) :
    Calls Try.prog 3 #[.slice b0 bn bc] W fun e w' => e = .returned (.bool true) ∧ Below W.heap.size W w' := by
  obtain ⟨m, hm⟩ := kb
  obtain ⟨l, rfl, hlc, hrl, hby⟩ := came22 ⟨m, ps, hm⟩ wb
  exact parses_core b0 bc l W hrl hlc hby
end Go.Proofs.Ytpodidgdlcfaeaa.Ip6
