/- The law Ip6Lays. -/
import Derived.Test.YtpodidgdlcfaeaaIp6Q
import Derived.Test.YtpodidgdlcfaeaaIp6L
import Derived.BigQuiet
namespace Go.Proofs.Ytpodidgdlcfaeaa.Ip6
open Go.RowKit Go.Proofs.YtpodidgdlcfaeaaW.PrintWords Go.Proofs.YtpodidgdlcfaeaaW.PrintLast Go.Proofs.YtpodidgdlcfaeaaW.PrintMore Go.Proofs.Ytpodidgdlcfaeaa.PIp6Lays
open Go.Proofs.Ytpodidgdlcfaeaa
set_option linter.unusedVariables false
set_option linter.unusedSimpArgs false
theorem rbtw_walk (k : Int) (w : World) : Calls Try.prog 18 #[.int .i64 k] w fun e w' => e = .returned (.bool (btw k)) ∧ ∃ m, w' = w.drewN m :=
  (redoubtref04_Between.calls k _ w (rbtw_f k)).mono fun _ _ h => ⟨h.1, h.2.out⟩
theorem rcheck_walk (p : Pk) (A5 A7 : Option Addr) (c5 c7 : Nat) (hp : Small p) (w : World) (hr : PkR w p A5 c5 A7 c7) :
    Calls Try.prog 15 #[.agg (p.cells A5 c5 A7 c7)] w fun e w' => e = .returned (.int .i64 (checkE p)) ∧ Below w.heap.size w w' :=
  redoubtref04_Check.calls _ p.cls p.lab p.hop p.src p.dst A5 c5 p.ex p.nxt A7 c7 p.dat _ w hr.r5 hr.h5 hr.r7 hr.h7 (refCheck_f p hp)
set_option maxHeartbeats 8000000 in
set_option maxRecDepth 100000 in
theorem lays_core (p : Pk) (kd : Int) (A5 A7 : Option Addr) (c5 c7 : Nat) (hpre : Pre p) (w : World) (hr : PkR w p A5 c5 A7 c7) :
    Calls Try.prog 5 #[.agg (p.cells A5 c5 A7 c7), .int .i64 kd] w fun e w' => e = .returned (.bool true) ∧ Below w.heap.size w w' := by
  obtain ⟨r, hsm, few⟩ := few_walk p A5 A7 c5 c7 hpre
  have FW := Aside0.mk few
  have HR := Aside0.mk fun (W : World) (hb : Below w.heap.size w W) => hr.below hb
  have AW := Aside0.mk awake_walk
  have OWN := Aside0.mk fun (hp : Small p) (W : World) (hb : Below w.heap.size w W) => own_walk p A5 A7 c5 c7 hp W (hr.below hb)
  have BY := Aside0.mk fun (hp : Small p) (B5 B7 : Option Addr) (d5 d7 : Nat) (W : World) (h : PkR W p B5 d5 B7 d7) => bytes_walk' p B5 B7 d5 d7 hp W h
  have CH := Aside0.mk fun (hp : Small p) (B5 B7 : Option Addr) (d5 d7 : Nat) (W : World) (h : PkR W p B5 d5 B7 d7) => check_walk p B5 B7 d5 d7 hp W h
  have RC := Aside0.mk fun (hp : Small p) (W : World) (hb : Below w.heap.size w W) => rcheck_walk p A5 A7 c5 c7 hp W (hr.below hb)
  have SM := Aside0.mk fun (hp : Small p) (B5 B7 : Option Addr) (d5 d7 : Nat) (W : World) (h : PkR W p B5 d5 B7 d7) (hb : Below w.heap.size w W) => same_walk p B5 B7 A5 A7 d5 d7 c5 c7 (by have := hp.ex; omega) W h (hr.below hb)
  have RB := Aside0.mk fun (hp : Small p) (hok : checkE p = 0) (W : World) (hb : Below w.heap.size w W) => refBytes_walk p A5 A7 c5 c7 hp W (hr.below hb) hok
  obtain ⟨cls, lab, hop, src, dst, ex, nxt, dat⟩ := p
  show Calls Try.prog 5 #[.agg #[.int .i64 cls, .int .i64 lab, .int .i64 hop, .string src, .string dst, .slice A5 ex.length c5, .int .i64 nxt, .slice A7 dat.length c7], .int .i64 kd] w _
  clear hpre hr few
  go_enter Try.func5, Try.ntmps5
  go_wp2_with (first | ((with_reducible refine gate_dst (N := 2) rfl ?_); refine box_event ?hg (N := 2) ?hd (cs := #[.int .i64 cls, .int .i64 lab, .int .i64 hop, .string src, .string dst, .slice A5 ex.length c5, .int .i64 nxt, .slice A7 dat.length c7]) (t := 26) ?hr ?_; (case hd => rfl); (case hg => rfl); (case hr => first | (go_simp; done) | (go_simp; rfl)); intro q1 hq w1 hbox hb; have BKq1 := Aside0.mk hbox; have HQq1 := Aside0.mk (show w.heap.size ≤ q1 from by rw [hq]; exact Nat.le_refl _); have HB1 := Aside0.mk hb; clear hbox hb hq; have z0 : w1.cell? ⟨q1, 0, none⟩ = some (.int .i64 cls) := (blk_cell BKq1.out 0).trans rfl; have z1 : w1.cell? ⟨q1, 1, none⟩ = some (.int .i64 lab) := (blk_cell BKq1.out 1).trans rfl; have z2 : w1.cell? ⟨q1, 2, none⟩ = some (.int .i64 hop) := (blk_cell BKq1.out 2).trans rfl; have z3 : w1.cell? ⟨q1, 3, none⟩ = some (.string src) := (blk_cell BKq1.out 3).trans rfl; have z4 : w1.cell? ⟨q1, 4, none⟩ = some (.string dst) := (blk_cell BKq1.out 4).trans rfl; have z5 : w1.cell? ⟨q1, 5, none⟩ = some (.slice A5 ex.length c5) := (blk_cell BKq1.out 5).trans rfl; have z6 : w1.cell? ⟨q1, 6, none⟩ = some (.int .i64 nxt) := (blk_cell BKq1.out 6).trans rfl; have z7 : w1.cell? ⟨q1, 7, none⟩ = some (.slice A7 dat.length c7) := (blk_cell BKq1.out 7).trans rfl))
  refine (FW.out _ (HR.out _ HB1.out)).mono ?_
  rintro e w2 ⟨rfl, hb⟩
  have BKq1 := Aside0.mk (blk_below BKq1.out hb)
  have HB2 := Aside0.mk (HB1.out.trans (hb.mono HB1.out.size))
  clear hb FW
  cases r with
  | false =>
    go_wp2_with (fail)
    go_ret
    exact ⟨rfl, HB2.out⟩
  | true =>
    have HS := Aside0.mk (hsm rfl)
    clear hsm

    clear z0 z1 z2 z3 z4 z5 z6 z7
    have z0 : w2.cell? ⟨q1, 0, none⟩ = some (.int .i64 cls) := (blk_cell BKq1.out 0).trans rfl
    have z1 : w2.cell? ⟨q1, 1, none⟩ = some (.int .i64 lab) := (blk_cell BKq1.out 1).trans rfl
    have z2 : w2.cell? ⟨q1, 2, none⟩ = some (.int .i64 hop) := (blk_cell BKq1.out 2).trans rfl
    have z3 : w2.cell? ⟨q1, 3, none⟩ = some (.string src) := (blk_cell BKq1.out 3).trans rfl
    have z4 : w2.cell? ⟨q1, 4, none⟩ = some (.string dst) := (blk_cell BKq1.out 4).trans rfl
    have z5 : w2.cell? ⟨q1, 5, none⟩ = some (.slice A5 ex.length c5) := (blk_cell BKq1.out 5).trans rfl
    have z6 : w2.cell? ⟨q1, 6, none⟩ = some (.int .i64 nxt) := (blk_cell BKq1.out 6).trans rfl
    have z7 : w2.cell? ⟨q1, 7, none⟩ = some (.slice A7 dat.length c7) := (blk_cell BKq1.out 7).trans rfl
    go_wp2_with (fail)
    refine (OWN.out HS.out _ HB2.out).mono ?_
    rintro e w3 ⟨⟨B5, d5, B7, d7, rfl, hpk⟩, hb⟩
    have BKq1 := Aside0.mk (blk_below BKq1.out hb)
    have HB3 := Aside0.mk (HB2.out.trans (hb.mono HB2.out.size))
    have HPK := Aside0.mk fun (W : World) (hW : Below w3.heap.size w3 W) => hpk.below hW
    clear hb hpk OWN z0 z1 z2 z3 z4 z5 z6 z7
    go_wp2_with (first | ((with_reducible refine gate_dst (N := 5) rfl ?_); refine box_event ?hg (N := 5) ?hd (cs := #[.int .i64 0, .int .i64 0, .int .i64 0, .string ByteArray.empty, .string ByteArray.empty, .slice none 0 0, .int .i64 0, .slice none 0 0]) (t := 26) ?hr ?_; (case hd => rfl); (case hg => rfl); (case hr => first | (go_simp; done) | (go_simp; rfl)); intro q5 hq w4 hbox hb; have HNq1q5 := Aside0.mk (show q1 ≠ q5 from by have := blk_lt BKq1.out; omega); have BKq1 := Aside0.mk (blk_below BKq1.out hb); have BKq5 := Aside0.mk hbox; have HQq5 := Aside0.mk (show w.heap.size ≤ q5 from by rw [hq]; exact HB3.out.size); have HB4 := Aside0.mk (HB3.out.trans (hb.mono HB3.out.size)); have HT4 := Aside0.mk hb; have HT3 := Aside0.mk (show w3.heap.size ≤ q5 from by rw [hq]; exact Nat.le_refl _); clear hbox hb hq) | ((with_reducible refine gate_store (t := 26) (p := 5) rfl ?_); have y0 : w4.cell? ⟨q5, 0, none⟩ = some (.int .i64 0) := (blk_cell BKq5.out 0).trans rfl; have y1 : w4.cell? ⟨q5, 1, none⟩ = some (.int .i64 0) := (blk_cell BKq5.out 1).trans rfl; have y2 : w4.cell? ⟨q5, 2, none⟩ = some (.int .i64 0) := (blk_cell BKq5.out 2).trans rfl; have y3 : w4.cell? ⟨q5, 3, none⟩ = some (.string ByteArray.empty) := (blk_cell BKq5.out 3).trans rfl; have y4 : w4.cell? ⟨q5, 4, none⟩ = some (.string ByteArray.empty) := (blk_cell BKq5.out 4).trans rfl; have y5 : w4.cell? ⟨q5, 5, none⟩ = some (.slice none 0 0) := (blk_cell BKq5.out 5).trans rfl; have y6 : w4.cell? ⟨q5, 6, none⟩ = some (.int .i64 0) := (blk_cell BKq5.out 6).trans rfl; have y7 : w4.cell? ⟨q5, 7, none⟩ = some (.slice none 0 0) := (blk_cell BKq5.out 7).trans rfl; have f0 : w4.frozen? ⟨q5, 0, none⟩ = false := blk_frozen BKq5.out 0; have f1 : w4.frozen? ⟨q5, 1, none⟩ = false := blk_frozen BKq5.out 1; have f2 : w4.frozen? ⟨q5, 2, none⟩ = false := blk_frozen BKq5.out 2; have f3 : w4.frozen? ⟨q5, 3, none⟩ = false := blk_frozen BKq5.out 3; have f4 : w4.frozen? ⟨q5, 4, none⟩ = false := blk_frozen BKq5.out 4; have f5 : w4.frozen? ⟨q5, 5, none⟩ = false := blk_frozen BKq5.out 5; have f6 : w4.frozen? ⟨q5, 6, none⟩ = false := blk_frozen BKq5.out 6; have f7 : w4.frozen? ⟨q5, 7, none⟩ = false := blk_frozen BKq5.out 7; refine store_event (t := 26) (p := 5) (v := ?vo5) (w1 := Cells.setAll w4 q5 0 [.int .i64 cls, .int .i64 lab, .int .i64 hop, .string src, .string dst, .slice B5 ex.length d5, .int .i64 nxt, .slice B7 dat.length d7]) ?hg ?ho ?hn ?hr ?_; (case ho => rfl); (case hg => rfl); (case hn => rfl); (case hr => first | (go_simp; done) | (go_simp; rfl)); intro w5 hw; have BKq1 := Aside0.mk (show w5.heap[q1]? = _ from (congrArg (fun W : World => W.heap[q1]?) hw).trans ((Cells.setAll_far HNq1q5.out _ _ _).trans BKq1.out)); have HB5 := Aside0.mk (show Below w.heap.size w w5 from by rw [hw]; exact Cells.setAll_below HQq5.out _ _ _ HB4.out); have BKq5 := Aside0.mk (show w5.heap[q5]? = some (.cells #[.int .i64 cls, .int .i64 lab, .int .i64 hop, .string src, .string dst, .slice B5 ex.length d5, .int .i64 nxt, .slice B7 dat.length d7] 26 (0, 0)) from by rw [hw]; exact Cells.stored8 BKq5.out); clear y0 y1 y2 y3 y4 y5 y6 y7; clear f0 f1 f2 f3 f4 f5 f6 f7; have HT5 := Aside0.mk (show Below w3.heap.size w3 w5 from by rw [hw]; exact Cells.setAll_below HT3.out _ _ _ HT4.out); have y0 : w5.cell? ⟨q5, 0, none⟩ = some (.int .i64 cls) := (blk_cell BKq5.out 0).trans rfl; have y1 : w5.cell? ⟨q5, 1, none⟩ = some (.int .i64 lab) := (blk_cell BKq5.out 1).trans rfl; have y2 : w5.cell? ⟨q5, 2, none⟩ = some (.int .i64 hop) := (blk_cell BKq5.out 2).trans rfl; have y3 : w5.cell? ⟨q5, 3, none⟩ = some (.string src) := (blk_cell BKq5.out 3).trans rfl; have y4 : w5.cell? ⟨q5, 4, none⟩ = some (.string dst) := (blk_cell BKq5.out 4).trans rfl; have y5 : w5.cell? ⟨q5, 5, none⟩ = some (.slice B5 ex.length d5) := (blk_cell BKq5.out 5).trans rfl; have y6 : w5.cell? ⟨q5, 6, none⟩ = some (.int .i64 nxt) := (blk_cell BKq5.out 6).trans rfl; have y7 : w5.cell? ⟨q5, 7, none⟩ = some (.slice B7 dat.length d7) := (blk_cell BKq5.out 7).trans rfl; clear hw))
    refine (BY.out HS.out B5 B7 d5 d7 w5 (HPK.out _ HT5.out)).mono ?_
    rintro e w6 ⟨⟨A, c, b, rfl, hb1, hb2, hbc, hbr⟩, hb⟩
    have BKq1 := Aside0.mk (blk_below BKq1.out hb)
    have BKq5 := Aside0.mk (blk_below BKq5.out hb)
    have HB6 := Aside0.mk (HB5.out.trans (hb.mono HB5.out.size))
    have HT6 := Aside0.mk (HT5.out.trans (hb.mono HT5.out.size))
    clear y0 y1 y2 y3 y4 y5 y6 y7
    clear hb
    have z0 : w6.cell? ⟨q1, 0, none⟩ = some (.int .i64 cls) := (blk_cell BKq1.out 0).trans rfl
    have z1 : w6.cell? ⟨q1, 1, none⟩ = some (.int .i64 lab) := (blk_cell BKq1.out 1).trans rfl
    have z2 : w6.cell? ⟨q1, 2, none⟩ = some (.int .i64 hop) := (blk_cell BKq1.out 2).trans rfl
    have z3 : w6.cell? ⟨q1, 3, none⟩ = some (.string src) := (blk_cell BKq1.out 3).trans rfl
    have z4 : w6.cell? ⟨q1, 4, none⟩ = some (.string dst) := (blk_cell BKq1.out 4).trans rfl
    have z5 : w6.cell? ⟨q1, 5, none⟩ = some (.slice A5 ex.length c5) := (blk_cell BKq1.out 5).trans rfl
    have z6 : w6.cell? ⟨q1, 6, none⟩ = some (.int .i64 nxt) := (blk_cell BKq1.out 6).trans rfl
    have z7 : w6.cell? ⟨q1, 7, none⟩ = some (.slice A7 dat.length c7) := (blk_cell BKq1.out 7).trans rfl
    obtain ⟨E, hE⟩ : ∃ E, checkE ⟨cls, lab, hop, src, dst, ex, nxt, dat⟩ = E := ⟨_, rfl⟩
    have HE := Aside0.mk hE
    have RC := Aside0.mk (RC.out HS.out)
    have CH := Aside0.mk (CH.out HS.out)
    simp only [hE] at RC CH hb1 hb2 ⊢
    have HB12 := Aside0.mk (And.intro hb1 hb2)
    have HBR := Aside0.mk fun (W : World) (hW : Below w6.heap.size w6 W) => readsInt_below hbr hW
    obtain ⟨n, hn⟩ : ∃ n, b.length = n := ⟨_, rfl⟩
    have HN := Aside0.mk hn
    rw [hn] at hbc HBR ⊢
    clear hE hb1 hb2 hbr hn
    go_wp2_with (fail)
    refine (RC.out _ HB6.out).mono ?_
    rintro e w7 ⟨rfl, hb⟩
    have BKq1 := Aside0.mk (blk_below BKq1.out hb)
    have BKq5 := Aside0.mk (blk_below BKq5.out hb)
    have HB7 := Aside0.mk (HB6.out.trans (hb.mono HB6.out.size))
    have HT7 := Aside0.mk (HT6.out.trans (hb.mono HT6.out.size))
    have HU7 := Aside0.mk hb
    clear z0 z1 z2 z3 z4 z5 z6 z7
    clear hb
    have y0 : w7.cell? ⟨q5, 0, none⟩ = some (.int .i64 cls) := (blk_cell BKq5.out 0).trans rfl
    have y1 : w7.cell? ⟨q5, 1, none⟩ = some (.int .i64 lab) := (blk_cell BKq5.out 1).trans rfl
    have y2 : w7.cell? ⟨q5, 2, none⟩ = some (.int .i64 hop) := (blk_cell BKq5.out 2).trans rfl
    have y3 : w7.cell? ⟨q5, 3, none⟩ = some (.string src) := (blk_cell BKq5.out 3).trans rfl
    have y4 : w7.cell? ⟨q5, 4, none⟩ = some (.string dst) := (blk_cell BKq5.out 4).trans rfl
    have y5 : w7.cell? ⟨q5, 5, none⟩ = some (.slice B5 ex.length d5) := (blk_cell BKq5.out 5).trans rfl
    have y6 : w7.cell? ⟨q5, 6, none⟩ = some (.int .i64 nxt) := (blk_cell BKq5.out 6).trans rfl
    have y7 : w7.cell? ⟨q5, 7, none⟩ = some (.slice B7 dat.length d7) := (blk_cell BKq5.out 7).trans rfl
    go_wp2_with (fail)
    refine (CH.out B5 B7 d5 d7 _ (HPK.out _ HT7.out)).mono ?_
    rintro e w8 ⟨rfl, hb⟩
    have BKq1 := Aside0.mk (blk_below BKq1.out hb)
    have BKq5 := Aside0.mk (blk_below BKq5.out hb)
    have HB8 := Aside0.mk (HB7.out.trans (hb.mono HB7.out.size))
    have HT8 := Aside0.mk (HT7.out.trans (hb.mono HT7.out.size))
    have HU8 := Aside0.mk (HU7.out.trans (hb.mono HU7.out.size))
    clear y0 y1 y2 y3 y4 y5 y6 y7
    clear hb
    have z0 : w8.cell? ⟨q1, 0, none⟩ = some (.int .i64 cls) := (blk_cell BKq1.out 0).trans rfl
    have z1 : w8.cell? ⟨q1, 1, none⟩ = some (.int .i64 lab) := (blk_cell BKq1.out 1).trans rfl
    have z2 : w8.cell? ⟨q1, 2, none⟩ = some (.int .i64 hop) := (blk_cell BKq1.out 2).trans rfl
    have z3 : w8.cell? ⟨q1, 3, none⟩ = some (.string src) := (blk_cell BKq1.out 3).trans rfl
    have z4 : w8.cell? ⟨q1, 4, none⟩ = some (.string dst) := (blk_cell BKq1.out 4).trans rfl
    have z5 : w8.cell? ⟨q1, 5, none⟩ = some (.slice A5 ex.length c5) := (blk_cell BKq1.out 5).trans rfl
    have z6 : w8.cell? ⟨q1, 6, none⟩ = some (.int .i64 nxt) := (blk_cell BKq1.out 6).trans rfl
    have z7 : w8.cell? ⟨q1, 7, none⟩ = some (.slice A7 dat.length c7) := (blk_cell BKq1.out 7).trans rfl
    have y0 : w8.cell? ⟨q5, 0, none⟩ = some (.int .i64 cls) := (blk_cell BKq5.out 0).trans rfl
    have y1 : w8.cell? ⟨q5, 1, none⟩ = some (.int .i64 lab) := (blk_cell BKq5.out 1).trans rfl
    have y2 : w8.cell? ⟨q5, 2, none⟩ = some (.int .i64 hop) := (blk_cell BKq5.out 2).trans rfl
    have y3 : w8.cell? ⟨q5, 3, none⟩ = some (.string src) := (blk_cell BKq5.out 3).trans rfl
    have y4 : w8.cell? ⟨q5, 4, none⟩ = some (.string dst) := (blk_cell BKq5.out 4).trans rfl
    have y5 : w8.cell? ⟨q5, 5, none⟩ = some (.slice B5 ex.length d5) := (blk_cell BKq5.out 5).trans rfl
    have y6 : w8.cell? ⟨q5, 6, none⟩ = some (.int .i64 nxt) := (blk_cell BKq5.out 6).trans rfl
    have y7 : w8.cell? ⟨q5, 7, none⟩ = some (.slice B7 dat.length d7) := (blk_cell BKq5.out 7).trans rfl
    have ne : (E != E) = false := by simp
    go_wp2_with (fail)
    refine (SM.out HS.out B5 B7 d5 d7 _ (HPK.out _ HT8.out) HB8.out).mono ?_
    rintro e w9 ⟨rfl, hb⟩
    have BKq1 := Aside0.mk (blk_below BKq1.out hb)
    have BKq5 := Aside0.mk (blk_below BKq5.out hb)
    have HB9 := Aside0.mk (HB8.out.trans (hb.mono HB8.out.size))
    have HT9 := Aside0.mk (HT8.out.trans (hb.mono HT8.out.size))
    have HU9 := Aside0.mk (HU8.out.trans (hb.mono HU8.out.size))
    clear y0 y1 y2 y3 y4 y5 y6 y7
    clear z0 z1 z2 z3 z4 z5 z6 z7
    clear hb
    go_wp2_with (fail)
    refine (btw_walk kd _).mono ?_
    rintro e w10 ⟨rfl, m1, rfl⟩
    go_wp2_with (fail)
    refine (rbtw_walk kd _).mono ?_
    rintro e w11 ⟨rfl, m2, rfl⟩
    have hbm : Below w9.heap.size w9 ((w9.drewN m1).drewN m2) := pw_below_drewN (pw_below_drewN (Below.refl _ _) m1) m2
    have BKq1 := Aside0.mk (blk_below BKq1.out hbm)
    have HB11 := Aside0.mk (HB9.out.trans (hbm.mono HB9.out.size))
    have HU11 := Aside0.mk (HU9.out.trans (hbm.mono HU9.out.size))
    clear hbm
    generalize (w9.drewN m1).drewN m2 = w11 at BKq1 HB11 HU11 ⊢
    by_cases h0 : E = 0
    · subst h0
      have hb1 := HB12.out.1 rfl
      have CV := Aside0.mk (show ∀ W, Below w11.heap.size w11 W → (convert 22 9 (.slice A n c)).run Try.prog W = .ok (.string (strOfNums (bytesE ⟨cls, lab, hop, src, dst, ex, nxt, dat⟩))) W from fun W hW => by rw [← hb1]; exact string_of_reads (P := Try.prog) (c := c) Try.underlying22 Try.underlying5 Try.underlying9 (HBR.out _ (HU11.out.trans (hW.mono HU11.out.size))))
      have RB := Aside0.mk (RB.out HS.out HE.out)
      clear hb1 ne
      generalize bytesE ⟨cls, lab, hop, src, dst, ex, nxt, dat⟩ = BE at CV RB
      go_wp2_with (fail)
      refine start_ (n := 10) (S := fun W => Below w11.heap.size w11 W) (ds := []) #[false, false, false, false, false, false, false, false, false, false] (by kernel_rfl) rfl rfl (below_drew (Below.refl w11.heap.size w11)) (fun hHeld => ?_)
      refine one_ (i := 0) (N := some 51) #[true, false, false, false, false, false, false, false, false, false] rfl rfl (by kernel_rfl) (by decide) (fun K hK => ?_)
      refine goes_ Try.func10 (by kernel_rfl) rfl #[] (by rfl) rfl rfl (by first | rfl | simp [Act.eval] | go_simp) ?_
      refine (AW.out _).mono ?_
      rintro e w12 ⟨rfl, hb⟩
      refine ⟨_, rfl, hK.out _ _ (hHeld.trans (hb.mono hHeld.size)) (fun hHeld => ?_)⟩
      clear hK K hb
      refine norm_ (a' := ?_) ?_ ?_
      rotate_left
      · show Act.put _ (some 51) _ = _
        simp only [Act.put, List.setIfInBounds_toArray, List.set_cons_zero, List.set_cons_succ]
        rfl
      refine pure_ (i := 1) (N := some 52) (v := ?_) (a' := ?_) #[true, true, false, false, false, false, false, false, false, false] rfl rfl (by kernel_rfl) (fun _ _ _ h => h) (Or.inl ⟨by rfl, ?_⟩) ?_ ?_
      rotate_left
      · intro w'
        go_simp
        with_reducible rfl
      rotate_left
      · simp only [Act.put, List.setIfInBounds_toArray, List.set_cons_zero, List.set_cons_succ]
        rfl
      refine pure_ (i := 2) (N := some 53) (v := ?_) (a' := ?_) #[true, true, true, false, false, false, false, false, false, false] rfl rfl (by kernel_rfl) (fun _ _ _ h => h) (Or.inl ⟨by rfl, ?_⟩) ?_ ?_
      rotate_left
      · intro w'
        go_simp
        with_reducible rfl
      rotate_left
      · simp only [Act.put, List.setIfInBounds_toArray, List.set_cons_zero, List.set_cons_succ]
        rfl
      refine take_ (i := 3) (N := some 54) (v := ?_) (a' := ?_) #[true, true, true, true, false, false, false, false, false, false] rfl rfl (by kernel_rfl) (fun _ _ _ h => h) (Or.inl ⟨by rfl, ?_⟩) hHeld ?_ ?_
      rotate_left
      · intro w' s0
        have BKt := Aside0.mk (blk_below BKq1.out s0)
        have cv := CV.out _ s0
        have z0 : w'.cell? ⟨q1, 0, none⟩ = some (.int .i64 cls) := (blk_cell BKt.out 0).trans rfl
        have z1 : w'.cell? ⟨q1, 1, none⟩ = some (.int .i64 lab) := (blk_cell BKt.out 1).trans rfl
        have z2 : w'.cell? ⟨q1, 2, none⟩ = some (.int .i64 hop) := (blk_cell BKt.out 2).trans rfl
        have z3 : w'.cell? ⟨q1, 3, none⟩ = some (.string src) := (blk_cell BKt.out 3).trans rfl
        have z4 : w'.cell? ⟨q1, 4, none⟩ = some (.string dst) := (blk_cell BKt.out 4).trans rfl
        have z5 : w'.cell? ⟨q1, 5, none⟩ = some (.slice A5 ex.length c5) := (blk_cell BKt.out 5).trans rfl
        have z6 : w'.cell? ⟨q1, 6, none⟩ = some (.int .i64 nxt) := (blk_cell BKt.out 6).trans rfl
        have z7 : w'.cell? ⟨q1, 7, none⟩ = some (.slice A7 dat.length c7) := (blk_cell BKt.out 7).trans rfl
        go_simp
        with_reducible rfl
      rotate_left
      · simp only [Act.put, List.setIfInBounds_toArray, List.set_cons_zero, List.set_cons_succ]
        rfl
      refine take_ (i := 4) (N := some 55) (v := ?_) (a' := ?_) #[true, true, true, true, true, false, false, false, false, false] rfl rfl (by kernel_rfl) (fun _ _ _ h => h) (Or.inl ⟨by rfl, ?_⟩) hHeld ?_ ?_
      rotate_left
      · intro w' s0
        have BKt := Aside0.mk (blk_below BKq1.out s0)
        have cv := CV.out _ s0
        have z0 : w'.cell? ⟨q1, 0, none⟩ = some (.int .i64 cls) := (blk_cell BKt.out 0).trans rfl
        have z1 : w'.cell? ⟨q1, 1, none⟩ = some (.int .i64 lab) := (blk_cell BKt.out 1).trans rfl
        have z2 : w'.cell? ⟨q1, 2, none⟩ = some (.int .i64 hop) := (blk_cell BKt.out 2).trans rfl
        have z3 : w'.cell? ⟨q1, 3, none⟩ = some (.string src) := (blk_cell BKt.out 3).trans rfl
        have z4 : w'.cell? ⟨q1, 4, none⟩ = some (.string dst) := (blk_cell BKt.out 4).trans rfl
        have z5 : w'.cell? ⟨q1, 5, none⟩ = some (.slice A5 ex.length c5) := (blk_cell BKt.out 5).trans rfl
        have z6 : w'.cell? ⟨q1, 6, none⟩ = some (.int .i64 nxt) := (blk_cell BKt.out 6).trans rfl
        have z7 : w'.cell? ⟨q1, 7, none⟩ = some (.slice A7 dat.length c7) := (blk_cell BKt.out 7).trans rfl
        go_simp
        with_reducible rfl
      rotate_left
      · simp only [Act.put, List.setIfInBounds_toArray, List.set_cons_zero, List.set_cons_succ]
        rfl
      refine one_ (i := 5) (N := some 56) #[true, true, true, true, true, true, false, false, false, false] rfl rfl (by kernel_rfl) (by decide) (fun K hK => ?_)
      refine goes_ Try.func19 (by kernel_rfl) rfl #[.agg #[.int .i64 cls, .int .i64 lab, .int .i64 hop, .string src, .string dst, .slice A5 ex.length c5, .int .i64 nxt, .slice A7 dat.length c7]] (by rfl) rfl rfl (by first | rfl | simp [Act.eval] | go_simp) ?_
      refine (RB.out _ (HB11.out.trans (hHeld.mono HB11.out.size))).mono ?_
      rintro e w13 ⟨⟨v, rfl, ho⟩, hb⟩
      obtain ⟨A', c', rfl⟩ := own_slice ho
      have HX := Aside0.mk (own_le2 ho)
      have HU13 := Aside0.mk (show Below w11.heap.size w11 w13 from hHeld.trans (hb.mono hHeld.size))
      refine ⟨_, rfl, hK.out _ _ HU13.out (fun hHeld => ?_)⟩
      clear hK K hb ho
      refine norm_ (a' := ?_) ?_ ?_
      rotate_left
      · show Act.put _ (some 56) _ = _
        simp only [Act.put, List.setIfInBounds_toArray, List.set_cons_zero, List.set_cons_succ]
        rfl
      refine one_ (i := 6) (N := some 57) #[true, true, true, true, true, true, true, false, false, false] rfl rfl (by kernel_rfl) (by decide) (fun K hK => ?_)
      have cv := string_of_reads (P := Try.prog) (c := c') Try.underlying22 Try.underlying5 Try.underlying9 HX.out.2.2
      refine event_step (w1 := w13) (v := .string (strOfNums BE)) (by rfl) ?_ ?_
      · go_simp
      refine hK.out _ _ hHeld (fun hHeld => ?_)
      clear hK K cv
      refine norm_ (a' := ?_) ?_ ?_
      rotate_left
      · show Act.put _ (some 57) _ = _
        simp only [Act.put, List.setIfInBounds_toArray, List.set_cons_zero, List.set_cons_succ]
        rfl
      refine pure_ (i := 7) (N := some 58) (v := ?_) (a' := ?_) #[true, true, true, true, true, true, true, true, false, false] rfl rfl (by kernel_rfl) (fun _ _ _ h => h) (Or.inl ⟨by rfl, ?_⟩) ?_ ?_
      rotate_left
      · intro w'
        go_simp
        with_reducible rfl
      rotate_left
      · simp only [Act.put, List.setIfInBounds_toArray, List.set_cons_zero, List.set_cons_succ]
        rfl
      refine pure_ (i := 8) (N := some 59) (v := ?_) (a' := ?_) #[true, true, true, true, true, true, true, true, true, false] rfl rfl (by kernel_rfl) (fun _ _ _ h => h) (Or.inl ⟨by rfl, ?_⟩) ?_ ?_
      rotate_left
      · intro w'
        go_simp
        with_reducible rfl
      rotate_left
      · simp only [Act.put, List.setIfInBounds_toArray, List.set_cons_zero, List.set_cons_succ]
        rfl
      refine pure_ (i := 9) (N := some 4) (v := ?_) (a' := ?_) #[true, true, true, true, true, true, true, true, true, true] rfl rfl (by kernel_rfl) (fun _ _ _ h => h) (Or.inl ⟨by rfl, ?_⟩) ?_ ?_
      rotate_left
      · intro w'
        go_simp
        with_reducible rfl
      rotate_left
      · simp only [Act.put, List.setIfInBounds_toArray, List.set_cons_zero, List.set_cons_succ]
        rfl
      refine done_ (by kernel_rfl) ?_
      go_wp2_with (fail)
      go_ret
      exact ⟨rfl, HB11.out.trans (hHeld.mono HB11.out.size)⟩
    · have ne0 : (E != 0) = true := bne_iff_ne.mpr h0
      have hbe : b = [] := HB12.out.2 h0
      have hn0 : n = 0 := by rw [← HN.out, hbe]; rfl
      subst hn0
      clear hbe h0
      go_wp2_with (fail)
      refine (AW.out _).mono ?_
      rintro e w12 ⟨rfl, hb⟩
      have HB12' := Aside0.mk (HB11.out.trans (hb.mono HB11.out.size))
      clear hb
      go_wp2_with (fail)
      go_ret
      exact ⟨rfl, HB12'.out⟩
theorem lays_walk {H : Type} {enc : TypeId × Value → H} {d : DataW H} (a0 a1 a2 : Int) (a3 a4 : ByteArray) (a5 : Option Addr) (n5 c5 : Nat) (a6 : Int) (a7 : Option Addr) (n7 c7 : Nat) (kd : Int) (W : World)
    (f0 : (Lit.int .i64 a0).wf = true) (f1 : (Lit.int .i64 a1).wf = true) (f2 : (Lit.int .i64 a2).wf = true)
    (f5 : ∃ m e q, DataW.trod enc Try.prog W 0 (fun _ => true) true m 24 [.slice a5 n5 c5] = some (e, q) ∧ ∀ B, (∀ n ∈ d.weights Try.prog 26, n ≤ B) → ∀ n ∈ e.weights Try.prog 24, n ≤ B) (f6 : (Lit.int .i64 a6).wf = true)
    (f7 : ∃ m e q, DataW.trod enc Try.prog W 0 (fun _ => true) true m 22 [.slice a7 n7 c7] = some (e, q) ∧ ∀ B, (∀ n ∈ d.weights Try.prog 26, n ≤ B) → ∀ n ∈ e.weights Try.prog 22, n ≤ B)
    (g : a3.size ≤ 140737488351232 ∧ a4.size ≤ 140737488351232) (wt : ∀ n ∈ d.weights Try.prog 26, n ≤ 140737488351232) (wt' : ∀ n ∈ d.weights Try.prog 26, n ≤ 140737488351232) (wk : (Lit.int .i64 kd).wf = true) :
    Calls Try.prog 5 #[.agg #[.int .i64 a0, .int .i64 a1, .int .i64 a2, .string a3, .string a4, .slice a5 n5 c5, .int .i64 a6, .slice a7 n7 c7], .int .i64 kd] W fun e w' => e = .returned (.bool true) ∧ Below W.heap.size W w' := by
  obtain ⟨p, hp, hr, hpre⟩ := of_came f0 f1 f2 f5 f6 f7 g wt
  rw [hp]
  exact lays_core p kd a5 a7 c5 c7 hpre W hr
end Go.Proofs.Ytpodidgdlcfaeaa.Ip6
