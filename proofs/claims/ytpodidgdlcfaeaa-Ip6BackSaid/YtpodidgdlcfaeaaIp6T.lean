/- The law Ip6Back. -/
import Derived.Test.YtpodidgdlcfaeaaIp6S
import Derived.Test.YtpodidgdlcfaeaaCells
import Derived.Test.YtpodidgdlcfaeaaIp6L
namespace Go.Proofs.Ytpodidgdlcfaeaa.Ip6
open Go.RowKit Go.Proofs.YtpodidgdlcfaeaaW.PrintWords Go.Proofs.YtpodidgdlcfaeaaW.PrintLast Go.Proofs.YtpodidgdlcfaeaaW.PrintMore Go.Proofs.Ytpodidgdlcfaeaa.PIp6Lays
open Go.Proofs.Ytpodidgdlcfaeaa
set_option linter.unusedVariables false
set_option linter.unusedSimpArgs false
theorem zPk_read (w : World) : PkR w zPk none 0 none 0 := ⟨Kd.C_nil _ _, by decide, Kd.C_nil _ _, by decide⟩
set_option maxHeartbeats 8000000 in
set_option maxRecDepth 100000 in
theorem back_core (p : Pk) (A5 A7 A0 : Option Addr) (c5 c7 c0 : Nat) (b : List Int) (hpre : Pre p) (w : World) (hr : PkR w p A5 c5 A7 c7) (hrb : ReadsInt w .u8 A0 b.length b) (hcb : b.length ≤ c0) (hby : ∀ x ∈ b, 0 ≤ x ∧ x ≤ 255) :
    Calls Try.prog 4 #[.agg (p.cells A5 c5 A7 c7), .slice A0 b.length c0] w fun e w' => e = .returned (.bool true) ∧ Below w.heap.size w w' := by
  obtain ⟨r, hsm, few⟩ := few_walk p A5 A7 c5 c7 hpre
  have FW := Aside0.mk few
  have HR := Aside0.mk fun (W : World) (hb : Below w.heap.size w W) => hr.below hb
  have AW := Aside0.mk awake_walk
  have BY := Aside0.mk fun (hp : Small p) (W : World) (hb : Below w.heap.size w W) => bytes_walk' p A5 A7 c5 c7 hp W (hr.below hb)
  have SM := Aside0.mk fun (hp : Small p) (B5 B7 : Option Addr) (d5 d7 : Nat) (W : World) (h : PkR W p B5 d5 B7 d7) (hb : Below w.heap.size w W) => same_walk p A5 A7 B5 B7 c5 c7 d5 d7 (by have := hp.ex; omega) W (hr.below hb) h
  have RL := Aside0.mk fun (hp : Small p) (h : checkE p = 0) => And.intro (read_laid p hp h) (And.intro (bytesE_byte p hp h) (show (bytesE p).length ≤ 100000 from by rw [bytesE_len p h]; have := sum_of h; omega))
  have RB := Aside0.mk fun (W : World) (hb : Below w.heap.size w W) => readsInt_below hrb hb
  have PW := Aside0.mk fun (hl : b.length ≤ 4000) (W : World) (hb : Below w.heap.size w W) => parse_walk' A0 c0 b W (readsInt_below hrb hb) hcb (by omega) hby
  have LR := Aside0.mk fun (hl : b.length ≤ 4000) => laid_read b hby hl
  obtain ⟨⟨f, q⟩, hfq⟩ : ∃ x, parseE b = x := ⟨_, rfl⟩
  rw [hfq] at PW LR
  simp only at PW LR
  obtain ⟨n, hn⟩ : ∃ n, b.length = n := ⟨_, rfl⟩
  have HN := Aside0.mk hn
  rw [hn] at PW LR RB hcb ⊢
  obtain ⟨cls, lab, hop, src, dst, ex, nxt, dat⟩ := p
  obtain ⟨qcls, qlab, qhop, qsrc, qdst, qex, qnxt, qdat⟩ := q
  show Calls Try.prog 4 #[.agg #[.int .i64 cls, .int .i64 lab, .int .i64 hop, .string src, .string dst, .slice A5 ex.length c5, .int .i64 nxt, .slice A7 dat.length c7], .slice A0 n c0] w _
  clear hpre hr few hrb hby hfq hn
  go_enter Try.func4, Try.ntmps4
  go_wp2_with (first | ((with_reducible refine gate_dst (N := 2) rfl ?_); refine box_event ?hg (N := 2) ?hd (cs := #[.int .i64 cls, .int .i64 lab, .int .i64 hop, .string src, .string dst, .slice A5 ex.length c5, .int .i64 nxt, .slice A7 dat.length c7]) (t := 26) ?hr ?_; (case hd => rfl); (case hg => rfl); (case hr => first | (go_simp; done) | (go_simp; rfl)); intro q1 hq w1 hbox hb; have BKq1 := Aside0.mk hbox; have HQq1 := Aside0.mk (show w.heap.size ≤ q1 from by rw [hq]; exact Nat.le_refl _); have HB1 := Aside0.mk hb; clear hbox hb hq; have z0 : w1.cell? ⟨q1, 0, none⟩ = some (.int .i64 cls) := (blk_cell BKq1.out 0).trans rfl; have z1 : w1.cell? ⟨q1, 1, none⟩ = some (.int .i64 lab) := (blk_cell BKq1.out 1).trans rfl; have z2 : w1.cell? ⟨q1, 2, none⟩ = some (.int .i64 hop) := (blk_cell BKq1.out 2).trans rfl; have z3 : w1.cell? ⟨q1, 3, none⟩ = some (.string src) := (blk_cell BKq1.out 3).trans rfl; have z4 : w1.cell? ⟨q1, 4, none⟩ = some (.string dst) := (blk_cell BKq1.out 4).trans rfl; have z5 : w1.cell? ⟨q1, 5, none⟩ = some (.slice A5 ex.length c5) := (blk_cell BKq1.out 5).trans rfl; have z6 : w1.cell? ⟨q1, 6, none⟩ = some (.int .i64 nxt) := (blk_cell BKq1.out 6).trans rfl; have z7 : w1.cell? ⟨q1, 7, none⟩ = some (.slice A7 dat.length c7) := (blk_cell BKq1.out 7).trans rfl))
  refine (FW.out _ (HR.out _ HB1.out)).mono ?_
  rintro e w2 ⟨rfl, hb⟩
  have BKq1 := Aside0.mk (blk_below BKq1.out hb)
  have HB2 := Aside0.mk (HB1.out.trans (hb.mono HB1.out.size))
  clear hb FW z0 z1 z2 z3 z4 z5 z6 z7
  cases r with
  | false =>
    go_wp2_with (fail)
    go_ret
    exact ⟨rfl, HB2.out⟩
  | true =>
    have HS := Aside0.mk (hsm rfl)
    clear hsm
    by_cases h4 : 4000 < n
    · have d4 : decide ((4000 : Int) < (n : Int)) = true := decide_eq_true (by omega)
      clear h4
      go_wp2_with (fail)
      go_ret
      exact ⟨rfl, HB2.out⟩
    have d4 : decide ((4000 : Int) < (n : Int)) = false := decide_eq_false (by omega)
    have LR := Aside0.mk (LR.out (by omega))
    have PW := Aside0.mk (PW.out (by omega))
    have BY := Aside0.mk (BY.out HS.out)
    have SM := Aside0.mk (SM.out HS.out)
    have RL := Aside0.mk (RL.out HS.out)
    clear h4
    have z0 : w2.cell? ⟨q1, 0, none⟩ = some (.int .i64 cls) := (blk_cell BKq1.out 0).trans rfl
    have z1 : w2.cell? ⟨q1, 1, none⟩ = some (.int .i64 lab) := (blk_cell BKq1.out 1).trans rfl
    have z2 : w2.cell? ⟨q1, 2, none⟩ = some (.int .i64 hop) := (blk_cell BKq1.out 2).trans rfl
    have z3 : w2.cell? ⟨q1, 3, none⟩ = some (.string src) := (blk_cell BKq1.out 3).trans rfl
    have z4 : w2.cell? ⟨q1, 4, none⟩ = some (.string dst) := (blk_cell BKq1.out 4).trans rfl
    have z5 : w2.cell? ⟨q1, 5, none⟩ = some (.slice A5 ex.length c5) := (blk_cell BKq1.out 5).trans rfl
    have z6 : w2.cell? ⟨q1, 6, none⟩ = some (.int .i64 nxt) := (blk_cell BKq1.out 6).trans rfl
    have z7 : w2.cell? ⟨q1, 7, none⟩ = some (.slice A7 dat.length c7) := (blk_cell BKq1.out 7).trans rfl
    go_wp2_with (fail)
    refine (BY.out _ HB2.out).mono ?_
    rintro e w3 ⟨⟨A, c, l, rfl, hb1, hb2, hbc, hbr⟩, hb⟩
    have BKq1 := Aside0.mk (blk_below BKq1.out hb)
    have HB3 := Aside0.mk (HB2.out.trans (hb.mono HB2.out.size))
    have HBR := Aside0.mk fun (W : World) (hW : Below w3.heap.size w3 W) => readsInt_below hbr hW
    have HBC := Aside0.mk hbc
    have HB12 := Aside0.mk hb1
    clear z0 z1 z2 z3 z4 z5 z6 z7
    clear hb hbr hbc hb1 hb2
    obtain ⟨E, hE⟩ : ∃ E, checkE ⟨cls, lab, hop, src, dst, ex, nxt, dat⟩ = E := ⟨_, rfl⟩
    rw [hE] at RL HB12 ⊢
    by_cases h0 : E = 0
    · subst h0
      obtain ⟨rl1, rl2, rl3⟩ := RL.out rfl
      have hl := HB12.out rfl
      have PL := Aside0.mk (parse_walk' A c l w3 (HBR.out _ (Below.refl _ _)) HBC.out (by rw [hl]; exact rl3) (by rw [hl]; exact rl2))
      rw [hl, rl1] at PL
      rw [hl]
      clear rl1 rl2 rl3 hl hE
      simp only at PL
      go_wp2_with (fail)
      refine (PL.out).mono ?_
      rintro e w4 ⟨⟨B5, d5, B7, d7, rfl, hpk⟩, hb⟩
      have BKq1 := Aside0.mk (blk_below BKq1.out hb)
      have HB4 := Aside0.mk (HB3.out.trans (hb.mono HB3.out.size))
      have HPK := Aside0.mk fun (W : World) (hW : Below w4.heap.size w4 W) => hpk.below hW
      clear hb hpk PL
      go_wp2_with (first | ((with_reducible refine gate_dst (N := 7) rfl ?_); refine box_event ?hg (N := 7) ?hd (cs := #[.int .i64 0, .int .i64 0, .int .i64 0, .string ByteArray.empty, .string ByteArray.empty, .slice none 0 0, .int .i64 0, .slice none 0 0]) (t := 26) ?hr ?_; (case hd => rfl); (case hg => rfl); (case hr => first | (go_simp; done) | (go_simp; rfl)); intro q7 hq w5 hbox hb; have HNq1q7 := Aside0.mk (show q1 ≠ q7 from by have := blk_lt BKq1.out; omega); have BKq1 := Aside0.mk (blk_below BKq1.out hb); have BKq7 := Aside0.mk hbox; have HQq7 := Aside0.mk (show w.heap.size ≤ q7 from by rw [hq]; exact HB4.out.size); have HB5 := Aside0.mk (HB4.out.trans (hb.mono HB4.out.size)); have HT5 := Aside0.mk hb; have HTp := Aside0.mk (show w4.heap.size ≤ q7 from by rw [hq]; exact Nat.le_refl _); clear hbox hb hq) | ((with_reducible refine gate_store (t := 26) (p := 7) rfl ?_); have y0 : w5.cell? ⟨q7, 0, none⟩ = some (.int .i64 0) := (blk_cell BKq7.out 0).trans rfl; have y1 : w5.cell? ⟨q7, 1, none⟩ = some (.int .i64 0) := (blk_cell BKq7.out 1).trans rfl; have y2 : w5.cell? ⟨q7, 2, none⟩ = some (.int .i64 0) := (blk_cell BKq7.out 2).trans rfl; have y3 : w5.cell? ⟨q7, 3, none⟩ = some (.string ByteArray.empty) := (blk_cell BKq7.out 3).trans rfl; have y4 : w5.cell? ⟨q7, 4, none⟩ = some (.string ByteArray.empty) := (blk_cell BKq7.out 4).trans rfl; have y5 : w5.cell? ⟨q7, 5, none⟩ = some (.slice none 0 0) := (blk_cell BKq7.out 5).trans rfl; have y6 : w5.cell? ⟨q7, 6, none⟩ = some (.int .i64 0) := (blk_cell BKq7.out 6).trans rfl; have y7 : w5.cell? ⟨q7, 7, none⟩ = some (.slice none 0 0) := (blk_cell BKq7.out 7).trans rfl; have f0 : w5.frozen? ⟨q7, 0, none⟩ = false := blk_frozen BKq7.out 0; have f1 : w5.frozen? ⟨q7, 1, none⟩ = false := blk_frozen BKq7.out 1; have f2 : w5.frozen? ⟨q7, 2, none⟩ = false := blk_frozen BKq7.out 2; have f3 : w5.frozen? ⟨q7, 3, none⟩ = false := blk_frozen BKq7.out 3; have f4 : w5.frozen? ⟨q7, 4, none⟩ = false := blk_frozen BKq7.out 4; have f5 : w5.frozen? ⟨q7, 5, none⟩ = false := blk_frozen BKq7.out 5; have f6 : w5.frozen? ⟨q7, 6, none⟩ = false := blk_frozen BKq7.out 6; have f7 : w5.frozen? ⟨q7, 7, none⟩ = false := blk_frozen BKq7.out 7; refine store_event (t := 26) (p := 7) (v := ?vo7_6) (w1 := Cells.setAll w5 q7 0 [.int .i64 cls, .int .i64 lab, .int .i64 hop, .string src, .string dst, .slice B5 ex.length d5, .int .i64 nxt, .slice B7 dat.length d7]) ?hg ?ho ?hn ?hr ?_; (case ho => rfl); (case hg => rfl); (case hn => rfl); (case hr => first | (go_simp; done) | (go_simp; rfl)); intro w6 hw; have BKq1 := Aside0.mk (show w6.heap[q1]? = _ from (congrArg (fun W : World => W.heap[q1]?) hw).trans ((Cells.setAll_far HNq1q7.out _ _ _).trans BKq1.out)); have HB6 := Aside0.mk (show Below w.heap.size w w6 from by rw [hw]; exact Cells.setAll_below HQq7.out _ _ _ HB5.out); have BKq7 := Aside0.mk (show w6.heap[q7]? = some (.cells #[.int .i64 cls, .int .i64 lab, .int .i64 hop, .string src, .string dst, .slice B5 ex.length d5, .int .i64 nxt, .slice B7 dat.length d7] 26 (0, 0)) from by rw [hw]; exact Cells.stored8 BKq7.out); clear y0 y1 y2 y3 y4 y5 y6 y7; clear f0 f1 f2 f3 f4 f5 f6 f7; have HT6 := Aside0.mk (show Below w4.heap.size w4 w6 from by rw [hw]; exact Cells.setAll_below HTp.out _ _ _ HT5.out); have y0 : w6.cell? ⟨q7, 0, none⟩ = some (.int .i64 cls) := (blk_cell BKq7.out 0).trans rfl; have y1 : w6.cell? ⟨q7, 1, none⟩ = some (.int .i64 lab) := (blk_cell BKq7.out 1).trans rfl; have y2 : w6.cell? ⟨q7, 2, none⟩ = some (.int .i64 hop) := (blk_cell BKq7.out 2).trans rfl; have y3 : w6.cell? ⟨q7, 3, none⟩ = some (.string src) := (blk_cell BKq7.out 3).trans rfl; have y4 : w6.cell? ⟨q7, 4, none⟩ = some (.string dst) := (blk_cell BKq7.out 4).trans rfl; have y5 : w6.cell? ⟨q7, 5, none⟩ = some (.slice B5 ex.length d5) := (blk_cell BKq7.out 5).trans rfl; have y6 : w6.cell? ⟨q7, 6, none⟩ = some (.int .i64 nxt) := (blk_cell BKq7.out 6).trans rfl; have y7 : w6.cell? ⟨q7, 7, none⟩ = some (.slice B7 dat.length d7) := (blk_cell BKq7.out 7).trans rfl; have z0 : w6.cell? ⟨q1, 0, none⟩ = some (.int .i64 cls) := (blk_cell BKq1.out 0).trans rfl; have z1 : w6.cell? ⟨q1, 1, none⟩ = some (.int .i64 lab) := (blk_cell BKq1.out 1).trans rfl; have z2 : w6.cell? ⟨q1, 2, none⟩ = some (.int .i64 hop) := (blk_cell BKq1.out 2).trans rfl; have z3 : w6.cell? ⟨q1, 3, none⟩ = some (.string src) := (blk_cell BKq1.out 3).trans rfl; have z4 : w6.cell? ⟨q1, 4, none⟩ = some (.string dst) := (blk_cell BKq1.out 4).trans rfl; have z5 : w6.cell? ⟨q1, 5, none⟩ = some (.slice A5 ex.length c5) := (blk_cell BKq1.out 5).trans rfl; have z6 : w6.cell? ⟨q1, 6, none⟩ = some (.int .i64 nxt) := (blk_cell BKq1.out 6).trans rfl; have z7 : w6.cell? ⟨q1, 7, none⟩ = some (.slice A7 dat.length c7) := (blk_cell BKq1.out 7).trans rfl; clear hw))
      refine (SM.out B5 B7 d5 d7 _ (HPK.out _ HT6.out) HB6.out).mono ?_
      rintro e w7 ⟨rfl, hb⟩
      have BKq1 := Aside0.mk (blk_below BKq1.out hb)
      have HB7 := Aside0.mk (HB6.out.trans (hb.mono HB6.out.size))
      clear z0 z1 z2 z3 z4 z5 z6 z7
      clear y0 y1 y2 y3 y4 y5 y6 y7
      clear hb
      go_wp2_with (fail)
      refine (PW.out _ HB7.out).mono ?_
      rintro e w8 ⟨⟨D5, e5, D7, e7, rfl, hpk⟩, hb⟩
      have HB8 := Aside0.mk (HB7.out.trans (hb.mono HB7.out.size))
      have HPQ := Aside0.mk fun (W : World) (hW : Below w8.heap.size w8 W) => hpk.below hW
      clear hb hpk PW
      by_cases h0 : f = 0
      · subst h0
        obtain ⟨hq1, hq2, hq3⟩ := LR.out.1 rfl
        have HQS := Aside0.mk hq1
        have HQ3 := Aside0.mk hq3
        have HQ2 := Aside0.mk hq2
        have BQ := Aside0.mk fun (W : World) (hW : Below w8.heap.size w8 W) => bytes_walk' ⟨qcls, qlab, qhop, qsrc, qdst, qex, qnxt, qdat⟩ D5 D7 e5 e7 hq1 W (HPQ.out W hW)
        rw [hq2, hq3] at BQ
        clear hq1 hq2 hq3
        go_wp2_with (first | ((with_reducible refine gate_dst (N := 9) rfl ?_); refine box_event ?hg (N := 9) ?hd (cs := #[.int .i64 0, .int .i64 0, .int .i64 0, .string ByteArray.empty, .string ByteArray.empty, .slice none 0 0, .int .i64 0, .slice none 0 0]) (t := 26) ?hr ?_; (case hd => rfl); (case hg => rfl); (case hr => first | (go_simp; done) | (go_simp; rfl)); intro q9 hq w9 hbox hb; have BKq9 := Aside0.mk hbox; have HQq9 := Aside0.mk (show w.heap.size ≤ q9 from by rw [hq]; exact HB8.out.size); have HB9 := Aside0.mk (HB8.out.trans (hb.mono HB8.out.size)); have HT9 := Aside0.mk hb; have HTq := Aside0.mk (show w8.heap.size ≤ q9 from by rw [hq]; exact Nat.le_refl _); clear hbox hb hq) | ((with_reducible refine gate_store (t := 26) (p := 9) rfl ?_); have y0 : w9.cell? ⟨q9, 0, none⟩ = some (.int .i64 0) := (blk_cell BKq9.out 0).trans rfl; have y1 : w9.cell? ⟨q9, 1, none⟩ = some (.int .i64 0) := (blk_cell BKq9.out 1).trans rfl; have y2 : w9.cell? ⟨q9, 2, none⟩ = some (.int .i64 0) := (blk_cell BKq9.out 2).trans rfl; have y3 : w9.cell? ⟨q9, 3, none⟩ = some (.string ByteArray.empty) := (blk_cell BKq9.out 3).trans rfl; have y4 : w9.cell? ⟨q9, 4, none⟩ = some (.string ByteArray.empty) := (blk_cell BKq9.out 4).trans rfl; have y5 : w9.cell? ⟨q9, 5, none⟩ = some (.slice none 0 0) := (blk_cell BKq9.out 5).trans rfl; have y6 : w9.cell? ⟨q9, 6, none⟩ = some (.int .i64 0) := (blk_cell BKq9.out 6).trans rfl; have y7 : w9.cell? ⟨q9, 7, none⟩ = some (.slice none 0 0) := (blk_cell BKq9.out 7).trans rfl; have f0 : w9.frozen? ⟨q9, 0, none⟩ = false := blk_frozen BKq9.out 0; have f1 : w9.frozen? ⟨q9, 1, none⟩ = false := blk_frozen BKq9.out 1; have f2 : w9.frozen? ⟨q9, 2, none⟩ = false := blk_frozen BKq9.out 2; have f3 : w9.frozen? ⟨q9, 3, none⟩ = false := blk_frozen BKq9.out 3; have f4 : w9.frozen? ⟨q9, 4, none⟩ = false := blk_frozen BKq9.out 4; have f5 : w9.frozen? ⟨q9, 5, none⟩ = false := blk_frozen BKq9.out 5; have f6 : w9.frozen? ⟨q9, 6, none⟩ = false := blk_frozen BKq9.out 6; have f7 : w9.frozen? ⟨q9, 7, none⟩ = false := blk_frozen BKq9.out 7; refine store_event (t := 26) (p := 9) (v := ?vo9_10) (w1 := Cells.setAll w9 q9 0 [.int .i64 qcls, .int .i64 qlab, .int .i64 qhop, .string qsrc, .string qdst, .slice D5 qex.length e5, .int .i64 qnxt, .slice D7 qdat.length e7]) ?hg ?ho ?hn ?hr ?_; (case ho => rfl); (case hg => rfl); (case hn => rfl); (case hr => first | (go_simp; done) | (go_simp; rfl)); intro w10 hw; have HB10 := Aside0.mk (show Below w.heap.size w w10 from by rw [hw]; exact Cells.setAll_below HQq9.out _ _ _ HB9.out); have BKq9 := Aside0.mk (show w10.heap[q9]? = some (.cells #[.int .i64 qcls, .int .i64 qlab, .int .i64 qhop, .string qsrc, .string qdst, .slice D5 qex.length e5, .int .i64 qnxt, .slice D7 qdat.length e7] 26 (0, 0)) from by rw [hw]; exact Cells.stored8 BKq9.out); clear y0 y1 y2 y3 y4 y5 y6 y7; clear f0 f1 f2 f3 f4 f5 f6 f7; have HT10 := Aside0.mk (show Below w8.heap.size w8 w10 from by rw [hw]; exact Cells.setAll_below HTq.out _ _ _ HT9.out); have y0 : w10.cell? ⟨q9, 0, none⟩ = some (.int .i64 qcls) := (blk_cell BKq9.out 0).trans rfl; have y1 : w10.cell? ⟨q9, 1, none⟩ = some (.int .i64 qlab) := (blk_cell BKq9.out 1).trans rfl; have y2 : w10.cell? ⟨q9, 2, none⟩ = some (.int .i64 qhop) := (blk_cell BKq9.out 2).trans rfl; have y3 : w10.cell? ⟨q9, 3, none⟩ = some (.string qsrc) := (blk_cell BKq9.out 3).trans rfl; have y4 : w10.cell? ⟨q9, 4, none⟩ = some (.string qdst) := (blk_cell BKq9.out 4).trans rfl; have y5 : w10.cell? ⟨q9, 5, none⟩ = some (.slice D5 qex.length e5) := (blk_cell BKq9.out 5).trans rfl; have y6 : w10.cell? ⟨q9, 6, none⟩ = some (.int .i64 qnxt) := (blk_cell BKq9.out 6).trans rfl; have y7 : w10.cell? ⟨q9, 7, none⟩ = some (.slice D7 qdat.length e7) := (blk_cell BKq9.out 7).trans rfl; clear hw))
        refine (BQ.out _ HT10.out).mono ?_
        rintro e w11 ⟨⟨F, g, b', rfl, hb1, _, hbc, hbr⟩, hb⟩
        have HB11 := Aside0.mk (HB10.out.trans (hb.mono HB10.out.size))
        have hb1 := hb1 (by trivial)
        have CV1 := Aside0.mk fun (W : World) (hW : Below w11.heap.size w11 W) => string_of_reads (P := Try.prog) (c := g) Try.underlying22 Try.underlying5 Try.underlying9 (readsInt_below hbr hW)
        have hlen : b'.length = n := (congrArg List.length hb1).trans HN.out
        rw [hlen, hb1] at CV1
        rw [hlen]
        have CV2 := Aside0.mk fun (W : World) (hW : Below w.heap.size w W) => string_of_reads (P := Try.prog) (c := c0) Try.underlying22 Try.underlying5 Try.underlying9 (RB.out W hW)
        clear hb hb1 hbc hbr hlen y0 y1 y2 y3 y4 y5 y6 y7
        go_wp2_with (fail)
        refine (AW.out _).mono ?_
        rintro e w12 ⟨rfl, hb⟩
        have HB12 := Aside0.mk (HB11.out.trans (hb.mono HB11.out.size))
        have cv1 := CV1.out _ hb
        have cv2 := CV2.out _ HB12.out
        clear hb
        go_wp2_with (fail)
        go_ret
        exact ⟨rfl, HB12.out⟩
      · have ne : (f != 0) = true := bne_iff_ne.mpr h0
        have HZ := Aside0.mk (LR.out.2 h0)
        clear h0
        go_wp2_with (first | ((with_reducible refine gate_dst (N := 9) rfl ?_); refine box_event ?hg (N := 9) ?hd (cs := #[.int .i64 0, .int .i64 0, .int .i64 0, .string ByteArray.empty, .string ByteArray.empty, .slice none 0 0, .int .i64 0, .slice none 0 0]) (t := 26) ?hr ?_; (case hd => rfl); (case hg => rfl); (case hr => first | (go_simp; done) | (go_simp; rfl)); intro q9 hq w9 hbox hb; have BKq9 := Aside0.mk hbox; have HQq9 := Aside0.mk (show w.heap.size ≤ q9 from by rw [hq]; exact HB8.out.size); have HB9 := Aside0.mk (HB8.out.trans (hb.mono HB8.out.size)); have HT9 := Aside0.mk hb; have HTq := Aside0.mk (show w8.heap.size ≤ q9 from by rw [hq]; exact Nat.le_refl _); clear hbox hb hq) | ((with_reducible refine gate_store (t := 26) (p := 9) rfl ?_); have y0 : w9.cell? ⟨q9, 0, none⟩ = some (.int .i64 0) := (blk_cell BKq9.out 0).trans rfl; have y1 : w9.cell? ⟨q9, 1, none⟩ = some (.int .i64 0) := (blk_cell BKq9.out 1).trans rfl; have y2 : w9.cell? ⟨q9, 2, none⟩ = some (.int .i64 0) := (blk_cell BKq9.out 2).trans rfl; have y3 : w9.cell? ⟨q9, 3, none⟩ = some (.string ByteArray.empty) := (blk_cell BKq9.out 3).trans rfl; have y4 : w9.cell? ⟨q9, 4, none⟩ = some (.string ByteArray.empty) := (blk_cell BKq9.out 4).trans rfl; have y5 : w9.cell? ⟨q9, 5, none⟩ = some (.slice none 0 0) := (blk_cell BKq9.out 5).trans rfl; have y6 : w9.cell? ⟨q9, 6, none⟩ = some (.int .i64 0) := (blk_cell BKq9.out 6).trans rfl; have y7 : w9.cell? ⟨q9, 7, none⟩ = some (.slice none 0 0) := (blk_cell BKq9.out 7).trans rfl; have f0 : w9.frozen? ⟨q9, 0, none⟩ = false := blk_frozen BKq9.out 0; have f1 : w9.frozen? ⟨q9, 1, none⟩ = false := blk_frozen BKq9.out 1; have f2 : w9.frozen? ⟨q9, 2, none⟩ = false := blk_frozen BKq9.out 2; have f3 : w9.frozen? ⟨q9, 3, none⟩ = false := blk_frozen BKq9.out 3; have f4 : w9.frozen? ⟨q9, 4, none⟩ = false := blk_frozen BKq9.out 4; have f5 : w9.frozen? ⟨q9, 5, none⟩ = false := blk_frozen BKq9.out 5; have f6 : w9.frozen? ⟨q9, 6, none⟩ = false := blk_frozen BKq9.out 6; have f7 : w9.frozen? ⟨q9, 7, none⟩ = false := blk_frozen BKq9.out 7; refine store_event (t := 26) (p := 9) (v := ?vo9_10) (w1 := Cells.setAll w9 q9 0 [.int .i64 qcls, .int .i64 qlab, .int .i64 qhop, .string qsrc, .string qdst, .slice D5 qex.length e5, .int .i64 qnxt, .slice D7 qdat.length e7]) ?hg ?ho ?hn ?hr ?_; (case ho => rfl); (case hg => rfl); (case hn => rfl); (case hr => first | (go_simp; done) | (go_simp; rfl)); intro w10 hw; have HB10 := Aside0.mk (show Below w.heap.size w w10 from by rw [hw]; exact Cells.setAll_below HQq9.out _ _ _ HB9.out); have BKq9 := Aside0.mk (show w10.heap[q9]? = some (.cells #[.int .i64 qcls, .int .i64 qlab, .int .i64 qhop, .string qsrc, .string qdst, .slice D5 qex.length e5, .int .i64 qnxt, .slice D7 qdat.length e7] 26 (0, 0)) from by rw [hw]; exact Cells.stored8 BKq9.out); clear y0 y1 y2 y3 y4 y5 y6 y7; clear f0 f1 f2 f3 f4 f5 f6 f7; have HT10 := Aside0.mk (show Below w8.heap.size w8 w10 from by rw [hw]; exact Cells.setAll_below HTq.out _ _ _ HT9.out); have y0 : w10.cell? ⟨q9, 0, none⟩ = some (.int .i64 qcls) := (blk_cell BKq9.out 0).trans rfl; have y1 : w10.cell? ⟨q9, 1, none⟩ = some (.int .i64 qlab) := (blk_cell BKq9.out 1).trans rfl; have y2 : w10.cell? ⟨q9, 2, none⟩ = some (.int .i64 qhop) := (blk_cell BKq9.out 2).trans rfl; have y3 : w10.cell? ⟨q9, 3, none⟩ = some (.string qsrc) := (blk_cell BKq9.out 3).trans rfl; have y4 : w10.cell? ⟨q9, 4, none⟩ = some (.string qdst) := (blk_cell BKq9.out 4).trans rfl; have y5 : w10.cell? ⟨q9, 5, none⟩ = some (.slice D5 qex.length e5) := (blk_cell BKq9.out 5).trans rfl; have y6 : w10.cell? ⟨q9, 6, none⟩ = some (.int .i64 qnxt) := (blk_cell BKq9.out 6).trans rfl; have y7 : w10.cell? ⟨q9, 7, none⟩ = some (.slice D7 qdat.length e7) := (blk_cell BKq9.out 7).trans rfl; clear hw))
        refine (AW.out _).mono ?_
        rintro e w11 ⟨rfl, hb⟩
        have BKq9 := Aside0.mk (blk_below BKq9.out hb)
        have HT11 := Aside0.mk (HT10.out.trans (hb.mono HT10.out.size))
        have HB11 := Aside0.mk (HB10.out.trans (hb.mono HB10.out.size))
        clear hb y0 y1 y2 y3 y4 y5 y6 y7
        have y0 : w11.cell? ⟨q9, 0, none⟩ = some (.int .i64 qcls) := (blk_cell BKq9.out 0).trans rfl
        have y1 : w11.cell? ⟨q9, 1, none⟩ = some (.int .i64 qlab) := (blk_cell BKq9.out 1).trans rfl
        have y2 : w11.cell? ⟨q9, 2, none⟩ = some (.int .i64 qhop) := (blk_cell BKq9.out 2).trans rfl
        have y3 : w11.cell? ⟨q9, 3, none⟩ = some (.string qsrc) := (blk_cell BKq9.out 3).trans rfl
        have y4 : w11.cell? ⟨q9, 4, none⟩ = some (.string qdst) := (blk_cell BKq9.out 4).trans rfl
        have y5 : w11.cell? ⟨q9, 5, none⟩ = some (.slice D5 qex.length e5) := (blk_cell BKq9.out 5).trans rfl
        have y6 : w11.cell? ⟨q9, 6, none⟩ = some (.int .i64 qnxt) := (blk_cell BKq9.out 6).trans rfl
        have y7 : w11.cell? ⟨q9, 7, none⟩ = some (.slice D7 qdat.length e7) := (blk_cell BKq9.out 7).trans rfl
        have hpz := HPQ.out _ HT11.out
        obtain ⟨rfl, rfl, rfl, rfl, rfl, rfl, rfl, rfl⟩ := Pk.mk.inj HZ.out
        have SZ := Aside0.mk (same_walk zPk D5 D7 none none e5 e7 0 0 (by decide) w11 hpz (zPk_read _))
        clear hpz
        go_wp2_with (fail)
        refine SZ.out.mono ?_
        rintro e w12 ⟨rfl, hb⟩
        have HB12 := Aside0.mk (HB11.out.trans (hb.mono HB11.out.size))
        clear hb
        go_wp2_with (fail)
        go_ret
        exact ⟨rfl, HB12.out⟩
    · have ne : (E != 0) = true := bne_iff_ne.mpr h0
      have eq0 : (E == 0) = false := beq_eq_false_iff_ne.mpr h0
      clear h0 hE
      go_wp2_with (fail)
      refine (PW.out _ HB3.out).mono ?_
      rintro e w4 ⟨⟨D5, e5, D7, e7, rfl, hpk⟩, hb⟩
      have HB4 := Aside0.mk (HB3.out.trans (hb.mono HB3.out.size))
      have HPQ := Aside0.mk fun (W : World) (hW : Below w4.heap.size w4 W) => hpk.below hW
      clear hb hpk PW
      by_cases h0 : f = 0
      · subst h0
        obtain ⟨hq1, hq2, hq3⟩ := LR.out.1 rfl
        have HQS := Aside0.mk hq1
        have HQ3 := Aside0.mk hq3
        have HQ2 := Aside0.mk hq2
        have BQ := Aside0.mk fun (W : World) (hW : Below w4.heap.size w4 W) => bytes_walk' ⟨qcls, qlab, qhop, qsrc, qdst, qex, qnxt, qdat⟩ D5 D7 e5 e7 hq1 W (HPQ.out W hW)
        rw [hq2, hq3] at BQ
        clear hq1 hq2 hq3
        go_wp2_with (first | ((with_reducible refine gate_dst (N := 9) rfl ?_); refine box_event ?hg (N := 9) ?hd (cs := #[.int .i64 0, .int .i64 0, .int .i64 0, .string ByteArray.empty, .string ByteArray.empty, .slice none 0 0, .int .i64 0, .slice none 0 0]) (t := 26) ?hr ?_; (case hd => rfl); (case hg => rfl); (case hr => first | (go_simp; done) | (go_simp; rfl)); intro q9 hq w5 hbox hb; have BKq9 := Aside0.mk hbox; have HQq9 := Aside0.mk (show w.heap.size ≤ q9 from by rw [hq]; exact HB4.out.size); have HB5 := Aside0.mk (HB4.out.trans (hb.mono HB4.out.size)); have HT5 := Aside0.mk hb; have HTq := Aside0.mk (show w4.heap.size ≤ q9 from by rw [hq]; exact Nat.le_refl _); clear hbox hb hq) | ((with_reducible refine gate_store (t := 26) (p := 9) rfl ?_); have y0 : w5.cell? ⟨q9, 0, none⟩ = some (.int .i64 0) := (blk_cell BKq9.out 0).trans rfl; have y1 : w5.cell? ⟨q9, 1, none⟩ = some (.int .i64 0) := (blk_cell BKq9.out 1).trans rfl; have y2 : w5.cell? ⟨q9, 2, none⟩ = some (.int .i64 0) := (blk_cell BKq9.out 2).trans rfl; have y3 : w5.cell? ⟨q9, 3, none⟩ = some (.string ByteArray.empty) := (blk_cell BKq9.out 3).trans rfl; have y4 : w5.cell? ⟨q9, 4, none⟩ = some (.string ByteArray.empty) := (blk_cell BKq9.out 4).trans rfl; have y5 : w5.cell? ⟨q9, 5, none⟩ = some (.slice none 0 0) := (blk_cell BKq9.out 5).trans rfl; have y6 : w5.cell? ⟨q9, 6, none⟩ = some (.int .i64 0) := (blk_cell BKq9.out 6).trans rfl; have y7 : w5.cell? ⟨q9, 7, none⟩ = some (.slice none 0 0) := (blk_cell BKq9.out 7).trans rfl; have f0 : w5.frozen? ⟨q9, 0, none⟩ = false := blk_frozen BKq9.out 0; have f1 : w5.frozen? ⟨q9, 1, none⟩ = false := blk_frozen BKq9.out 1; have f2 : w5.frozen? ⟨q9, 2, none⟩ = false := blk_frozen BKq9.out 2; have f3 : w5.frozen? ⟨q9, 3, none⟩ = false := blk_frozen BKq9.out 3; have f4 : w5.frozen? ⟨q9, 4, none⟩ = false := blk_frozen BKq9.out 4; have f5 : w5.frozen? ⟨q9, 5, none⟩ = false := blk_frozen BKq9.out 5; have f6 : w5.frozen? ⟨q9, 6, none⟩ = false := blk_frozen BKq9.out 6; have f7 : w5.frozen? ⟨q9, 7, none⟩ = false := blk_frozen BKq9.out 7; refine store_event (t := 26) (p := 9) (v := ?vo9_6) (w1 := Cells.setAll w5 q9 0 [.int .i64 qcls, .int .i64 qlab, .int .i64 qhop, .string qsrc, .string qdst, .slice D5 qex.length e5, .int .i64 qnxt, .slice D7 qdat.length e7]) ?hg ?ho ?hn ?hr ?_; (case ho => rfl); (case hg => rfl); (case hn => rfl); (case hr => first | (go_simp; done) | (go_simp; rfl)); intro w6 hw; have HB6 := Aside0.mk (show Below w.heap.size w w6 from by rw [hw]; exact Cells.setAll_below HQq9.out _ _ _ HB5.out); have BKq9 := Aside0.mk (show w6.heap[q9]? = some (.cells #[.int .i64 qcls, .int .i64 qlab, .int .i64 qhop, .string qsrc, .string qdst, .slice D5 qex.length e5, .int .i64 qnxt, .slice D7 qdat.length e7] 26 (0, 0)) from by rw [hw]; exact Cells.stored8 BKq9.out); clear y0 y1 y2 y3 y4 y5 y6 y7; clear f0 f1 f2 f3 f4 f5 f6 f7; have HT6 := Aside0.mk (show Below w4.heap.size w4 w6 from by rw [hw]; exact Cells.setAll_below HTq.out _ _ _ HT5.out); have y0 : w6.cell? ⟨q9, 0, none⟩ = some (.int .i64 qcls) := (blk_cell BKq9.out 0).trans rfl; have y1 : w6.cell? ⟨q9, 1, none⟩ = some (.int .i64 qlab) := (blk_cell BKq9.out 1).trans rfl; have y2 : w6.cell? ⟨q9, 2, none⟩ = some (.int .i64 qhop) := (blk_cell BKq9.out 2).trans rfl; have y3 : w6.cell? ⟨q9, 3, none⟩ = some (.string qsrc) := (blk_cell BKq9.out 3).trans rfl; have y4 : w6.cell? ⟨q9, 4, none⟩ = some (.string qdst) := (blk_cell BKq9.out 4).trans rfl; have y5 : w6.cell? ⟨q9, 5, none⟩ = some (.slice D5 qex.length e5) := (blk_cell BKq9.out 5).trans rfl; have y6 : w6.cell? ⟨q9, 6, none⟩ = some (.int .i64 qnxt) := (blk_cell BKq9.out 6).trans rfl; have y7 : w6.cell? ⟨q9, 7, none⟩ = some (.slice D7 qdat.length e7) := (blk_cell BKq9.out 7).trans rfl; clear hw))
        refine (BQ.out _ HT6.out).mono ?_
        rintro e w7 ⟨⟨F, g, b', rfl, hb1, _, hbc, hbr⟩, hb⟩
        have HB7 := Aside0.mk (HB6.out.trans (hb.mono HB6.out.size))
        have hb1 := hb1 (by trivial)
        have CV1 := Aside0.mk fun (W : World) (hW : Below w7.heap.size w7 W) => string_of_reads (P := Try.prog) (c := g) Try.underlying22 Try.underlying5 Try.underlying9 (readsInt_below hbr hW)
        have hlen : b'.length = n := (congrArg List.length hb1).trans HN.out
        rw [hlen, hb1] at CV1
        rw [hlen]
        have CV2 := Aside0.mk fun (W : World) (hW : Below w.heap.size w W) => string_of_reads (P := Try.prog) (c := c0) Try.underlying22 Try.underlying5 Try.underlying9 (RB.out W hW)
        clear hb hb1 hbc hbr hlen y0 y1 y2 y3 y4 y5 y6 y7
        go_wp2_with (fail)
        refine (AW.out _).mono ?_
        rintro e w8 ⟨rfl, hb⟩
        have HB8 := Aside0.mk (HB7.out.trans (hb.mono HB7.out.size))
        have cv1 := CV1.out _ hb
        have cv2 := CV2.out _ HB8.out
        clear hb
        go_wp2_with (fail)
        go_ret
        exact ⟨rfl, HB8.out⟩
      · have ne : (f != 0) = true := bne_iff_ne.mpr h0
        have HZ := Aside0.mk (LR.out.2 h0)
        clear h0
        go_wp2_with (first | ((with_reducible refine gate_dst (N := 9) rfl ?_); refine box_event ?hg (N := 9) ?hd (cs := #[.int .i64 0, .int .i64 0, .int .i64 0, .string ByteArray.empty, .string ByteArray.empty, .slice none 0 0, .int .i64 0, .slice none 0 0]) (t := 26) ?hr ?_; (case hd => rfl); (case hg => rfl); (case hr => first | (go_simp; done) | (go_simp; rfl)); intro q9 hq w5 hbox hb; have BKq9 := Aside0.mk hbox; have HQq9 := Aside0.mk (show w.heap.size ≤ q9 from by rw [hq]; exact HB4.out.size); have HB5 := Aside0.mk (HB4.out.trans (hb.mono HB4.out.size)); have HT5 := Aside0.mk hb; have HTq := Aside0.mk (show w4.heap.size ≤ q9 from by rw [hq]; exact Nat.le_refl _); clear hbox hb hq) | ((with_reducible refine gate_store (t := 26) (p := 9) rfl ?_); have y0 : w5.cell? ⟨q9, 0, none⟩ = some (.int .i64 0) := (blk_cell BKq9.out 0).trans rfl; have y1 : w5.cell? ⟨q9, 1, none⟩ = some (.int .i64 0) := (blk_cell BKq9.out 1).trans rfl; have y2 : w5.cell? ⟨q9, 2, none⟩ = some (.int .i64 0) := (blk_cell BKq9.out 2).trans rfl; have y3 : w5.cell? ⟨q9, 3, none⟩ = some (.string ByteArray.empty) := (blk_cell BKq9.out 3).trans rfl; have y4 : w5.cell? ⟨q9, 4, none⟩ = some (.string ByteArray.empty) := (blk_cell BKq9.out 4).trans rfl; have y5 : w5.cell? ⟨q9, 5, none⟩ = some (.slice none 0 0) := (blk_cell BKq9.out 5).trans rfl; have y6 : w5.cell? ⟨q9, 6, none⟩ = some (.int .i64 0) := (blk_cell BKq9.out 6).trans rfl; have y7 : w5.cell? ⟨q9, 7, none⟩ = some (.slice none 0 0) := (blk_cell BKq9.out 7).trans rfl; have f0 : w5.frozen? ⟨q9, 0, none⟩ = false := blk_frozen BKq9.out 0; have f1 : w5.frozen? ⟨q9, 1, none⟩ = false := blk_frozen BKq9.out 1; have f2 : w5.frozen? ⟨q9, 2, none⟩ = false := blk_frozen BKq9.out 2; have f3 : w5.frozen? ⟨q9, 3, none⟩ = false := blk_frozen BKq9.out 3; have f4 : w5.frozen? ⟨q9, 4, none⟩ = false := blk_frozen BKq9.out 4; have f5 : w5.frozen? ⟨q9, 5, none⟩ = false := blk_frozen BKq9.out 5; have f6 : w5.frozen? ⟨q9, 6, none⟩ = false := blk_frozen BKq9.out 6; have f7 : w5.frozen? ⟨q9, 7, none⟩ = false := blk_frozen BKq9.out 7; refine store_event (t := 26) (p := 9) (v := ?vo9_6) (w1 := Cells.setAll w5 q9 0 [.int .i64 qcls, .int .i64 qlab, .int .i64 qhop, .string qsrc, .string qdst, .slice D5 qex.length e5, .int .i64 qnxt, .slice D7 qdat.length e7]) ?hg ?ho ?hn ?hr ?_; (case ho => rfl); (case hg => rfl); (case hn => rfl); (case hr => first | (go_simp; done) | (go_simp; rfl)); intro w6 hw; have HB6 := Aside0.mk (show Below w.heap.size w w6 from by rw [hw]; exact Cells.setAll_below HQq9.out _ _ _ HB5.out); have BKq9 := Aside0.mk (show w6.heap[q9]? = some (.cells #[.int .i64 qcls, .int .i64 qlab, .int .i64 qhop, .string qsrc, .string qdst, .slice D5 qex.length e5, .int .i64 qnxt, .slice D7 qdat.length e7] 26 (0, 0)) from by rw [hw]; exact Cells.stored8 BKq9.out); clear y0 y1 y2 y3 y4 y5 y6 y7; clear f0 f1 f2 f3 f4 f5 f6 f7; have HT6 := Aside0.mk (show Below w4.heap.size w4 w6 from by rw [hw]; exact Cells.setAll_below HTq.out _ _ _ HT5.out); have y0 : w6.cell? ⟨q9, 0, none⟩ = some (.int .i64 qcls) := (blk_cell BKq9.out 0).trans rfl; have y1 : w6.cell? ⟨q9, 1, none⟩ = some (.int .i64 qlab) := (blk_cell BKq9.out 1).trans rfl; have y2 : w6.cell? ⟨q9, 2, none⟩ = some (.int .i64 qhop) := (blk_cell BKq9.out 2).trans rfl; have y3 : w6.cell? ⟨q9, 3, none⟩ = some (.string qsrc) := (blk_cell BKq9.out 3).trans rfl; have y4 : w6.cell? ⟨q9, 4, none⟩ = some (.string qdst) := (blk_cell BKq9.out 4).trans rfl; have y5 : w6.cell? ⟨q9, 5, none⟩ = some (.slice D5 qex.length e5) := (blk_cell BKq9.out 5).trans rfl; have y6 : w6.cell? ⟨q9, 6, none⟩ = some (.int .i64 qnxt) := (blk_cell BKq9.out 6).trans rfl; have y7 : w6.cell? ⟨q9, 7, none⟩ = some (.slice D7 qdat.length e7) := (blk_cell BKq9.out 7).trans rfl; clear hw))
        refine (AW.out _).mono ?_
        rintro e w7 ⟨rfl, hb⟩
        have BKq9 := Aside0.mk (blk_below BKq9.out hb)
        have HT7 := Aside0.mk (HT6.out.trans (hb.mono HT6.out.size))
        have HB7 := Aside0.mk (HB6.out.trans (hb.mono HB6.out.size))
        clear hb y0 y1 y2 y3 y4 y5 y6 y7
        have y0 : w7.cell? ⟨q9, 0, none⟩ = some (.int .i64 qcls) := (blk_cell BKq9.out 0).trans rfl
        have y1 : w7.cell? ⟨q9, 1, none⟩ = some (.int .i64 qlab) := (blk_cell BKq9.out 1).trans rfl
        have y2 : w7.cell? ⟨q9, 2, none⟩ = some (.int .i64 qhop) := (blk_cell BKq9.out 2).trans rfl
        have y3 : w7.cell? ⟨q9, 3, none⟩ = some (.string qsrc) := (blk_cell BKq9.out 3).trans rfl
        have y4 : w7.cell? ⟨q9, 4, none⟩ = some (.string qdst) := (blk_cell BKq9.out 4).trans rfl
        have y5 : w7.cell? ⟨q9, 5, none⟩ = some (.slice D5 qex.length e5) := (blk_cell BKq9.out 5).trans rfl
        have y6 : w7.cell? ⟨q9, 6, none⟩ = some (.int .i64 qnxt) := (blk_cell BKq9.out 6).trans rfl
        have y7 : w7.cell? ⟨q9, 7, none⟩ = some (.slice D7 qdat.length e7) := (blk_cell BKq9.out 7).trans rfl
        have hpz := HPQ.out _ HT7.out
        obtain ⟨rfl, rfl, rfl, rfl, rfl, rfl, rfl, rfl⟩ := Pk.mk.inj HZ.out
        have SZ := Aside0.mk (same_walk zPk D5 D7 none none e5 e7 0 0 (by decide) w7 hpz (zPk_read _))
        clear hpz
        go_wp2_with (fail)
        refine SZ.out.mono ?_
        rintro e w8 ⟨rfl, hb⟩
        have HB8 := Aside0.mk (HB7.out.trans (hb.mono HB7.out.size))
        clear hb
        go_wp2_with (fail)
        go_ret
        exact ⟨rfl, HB8.out⟩
theorem back_walk {H : Type} {enc : TypeId × Value → H} {d d1 : DataW H} {ps : List MemPlace} (a0 a1 a2 : Int) (a3 a4 : ByteArray) (a5 : Option Addr) (n5 c5 : Nat) (a6 : Int) (a7 : Option Addr) (n7 c7 : Nat) (b0 : Option Addr) (bn bc : Nat) (W : World)
    (f0 : (Lit.int .i64 a0).wf = true) (f1 : (Lit.int .i64 a1).wf = true) (f2 : (Lit.int .i64 a2).wf = true)
    (f5 : ∃ m e q, DataW.trod enc Try.prog W 0 (fun _ => true) true m 24 [.slice a5 n5 c5] = some (e, q) ∧ ∀ B, (∀ n ∈ d.weights Try.prog 26, n ≤ B) → ∀ n ∈ e.weights Try.prog 24, n ≤ B) (f6 : (Lit.int .i64 a6).wf = true)
    (f7 : ∃ m e q, DataW.trod enc Try.prog W 0 (fun _ => true) true m 22 [.slice a7 n7 c7] = some (e, q) ∧ ∀ B, (∀ n ∈ d.weights Try.prog 26, n ≤ B) → ∀ n ∈ e.weights Try.prog 22, n ≤ B)
    (g : a3.size ≤ 140737488351232 ∧ a4.size ≤ 140737488351232) (wt : ∀ n ∈ d.weights Try.prog 26, n ≤ 140737488351232) (wt' : ∀ n ∈ d.weights Try.prog 26, n ≤ 140737488351232) (kb : DataW.Trod enc Try.prog W 0 (fun _ => true) true 22 (.slice b0 bn bc) d1 ps) (wb : ∀ n ∈ d1.weights Try.prog 22, n ≤ 140737488351232) :
    Calls Try.prog 4 #[.agg #[.int .i64 a0, .int .i64 a1, .int .i64 a2, .string a3, .string a4, .slice a5 n5 c5, .int .i64 a6, .slice a7 n7 c7], .slice b0 bn bc] W fun e w' => e = .returned (.bool true) ∧ Below W.heap.size W w' := by
  obtain ⟨p, hp, hr, hpre⟩ := of_came f0 f1 f2 f5 f6 f7 g wt
  rw [hp]
  obtain ⟨m, hm⟩ := kb
  obtain ⟨l, rfl, hlc, hrl, hby⟩ := came22 ⟨m, ps, hm⟩ wb
  exact back_core p a5 a7 b0 c5 c7 bc l hpre W hr hrl hlc hby
end Go.Proofs.Ytpodidgdlcfaeaa.Ip6
