/- Send of the program. -/
import Derived.Test.YtkmnpnbfeiobiaaDoorSdK
namespace Go.Proofs.YtkmnpnbfeiobiaaDoor.Sd
open Go.RowKit Go.Proofs.YtkmnpnbfeiobiaaDoorW.PrintWords Go.Proofs.YtkmnpnbfeiobiaaDoorW.PrintLast Go.Proofs.YtkmnpnbfeiobiaaDoorW.PrintMore Go.Proofs.YtkmnpnbfeiobiaaDoor.QSa
open Go.Proofs.YtkmnpnbfeiobiaaDoor
set_option linter.unusedVariables false
set_option linter.unusedSimpArgs false
theorem Turn.setRow {T : Ty} {base : Nat} {w w' : World} (h : Turn T base w w') {g : Nat} (hg : w.heap.size ≤ g) (cs : Array Value) : Turn T base w (w'.setRow g cs) :=
  ⟨h.os, h.tape, h.output, by rw [setRow_size]; exact h.size, fun k hk hc => (setRow_other _ _ _ _ (by omega)).trans (h.block k hk hc)⟩
theorem Turn.drew {T : Ty} {base : Nat} {w w' : World} (h : Turn T base w w') : Turn T base w w'.drew := ⟨h.os, h.tape, h.output, h.size, h.block⟩
theorem SadP.setRow {w : World} {base q g : Nat} {v : Value} {ps : List Pl} {es : List En} {old : Array Value} {t : TypeId} (h : SadP w base q v ps es) (hg : w.heap[g]? = some (.cells old t (0, 0))) (ht : ¬ TP.has t) (cs : Array Value) : SadP (w.setRow g cs) base q v ps es :=
  Tab.move h WnPg_ok fun k cs' t' _ hc hh => setRow_other _ _ _ _ (fun e => by
    subst e
    rw [hg] at hc
    injection hc with hc
    injection hc with _ e _
    subst e
    exact ht hh)
theorem SadP.drew {w : World} {base q : Nat} {v : Value} {ps : List Pl} {es : List En} (h : SadP w base q v ps es) : SadP w.drew base q v ps es := h.below (below_drew (Below.refl _ _))
def sendE (e : En) (n : Int) : En := { e with sent := e.sent + 1, bytes := e.bytes + n }
/-- Have the numbers of an association come to their end? -/
def fullB (e : En) : Bool := ((e.sent : Int) == 18446744073709551615) || (!e.life.f0.f4 && ((e.sent : Int) == 4294967295))
theorem Good.send {k : Nat} {e : En} (h : Good k e) {n : Int} (h0 : 0 ≤ n) (h1 : n ≤ 1000000000) (hc : fullB e = false) : Good (k + 1) (sendE e n) := by
  have hs := h.sent
  have hne : e.sent ≠ 18446744073709551615 := by
    unfold fullB at hc
    simp only [Bool.or_eq_false_iff, beq_eq_false_iff_ne] at hc
    omega
  refine ⟨h.lo, h.hi, h.inv, h.top, ?_, h.born, ?_, h.spi, Nat.le_succ_of_le h.ns⟩
  · show e.sent + 1 < 18446744073709551616
    omega
  · have := h.bytes
    show 0 ≤ e.bytes + n ∧ e.bytes + n ≤ 1000000000 * ((k + 1 : Nat) : Int)
    omega
def sendF (es : List En) (now spi n : Int) : List En × S25 × Int × Int :=
  if n < 0 then (es, z25, 0, 1) else if findI es spi true < es.length then (if ageE (es.getD (findI es spi true) en0) now = 2 then (es, z25, 0, 171) else if fullB (es.getD (findI es spi true) en0) = true then (es, z25, 0, 121) else (es.set (findI es spi true) (sendE (es.getD (findI es spi true) en0) n), (es.getD (findI es spi true) en0).life.f0, ((es.getD (findI es spi true) en0).sent : Int) + 1, 0)) else (es, z25, 0, 6)
set_option maxHeartbeats 1600000 in
set_option maxRecDepth 100000 in
theorem send_neg {w : World} {q : Nat} (now spi n : Int) (hn : n < 0) (hv : ∀ W, Below w.heap.size w W → Calls Tryd.prog 27 #[.pointer (some ⟨q, 0, none⟩), .int .i64 now, .int .i64 spi, .bool true] W (LiveAny W)) :
    Calls Tryd.prog 14 #[.pointer (some ⟨q, 0, none⟩), .int .i64 now, .int .i64 spi, .int .i64 n] w fun e w' => e = .returned (.tuple #[v25 z25, .int .u64 0, .int .i64 1]) ∧ Below w.heap.size w w' := by
  have HV := Aside0.mk hv
  have hn1 : decide (n < 0) = true := decide_eq_true hn
  clear hv hn
  go_enter Tryd.func14, Tryd.ntmps14
  go_wp2_with (first | ((with_reducible refine gate_dst (N := 8) rfl ?_); refine box_event ?hg (N := 8) ?hd (cs := #[.int .i64 0, .string ByteArray.empty, .string ByteArray.empty, .string ByteArray.empty, .bool false, .int .i64 0]) (t := 25) ?hr ?_; (case hd => rfl); (case hg => rfl); (case hr => first | (go_simp; done) | (go_simp; rfl)); intro q8 hq w1 hbox hb; have BKq8 := Aside0.mk hbox; have HQq8 := Aside0.mk (show w.heap.size ≤ q8 from by rw [hq]; exact Nat.le_refl _); have HB1 := Aside0.mk hb; clear hbox hb hq))
  refine (HV.out w1 HB1.out).mono ?_
  rintro e w2 ⟨⟨u, v, rfl⟩, hb⟩
  have HB2 := Aside0.mk (HB1.out.trans (hb.mono HB1.out.size))
  have BKq8 := Aside0.mk (blk_below BKq8.out hb)
  clear hb
  go_wp2_with (first | ((with_reducible refine gate_store (t := 25) (p := 8) rfl ?_); refine store_rowE ?hg 25 (.tmp 8) (.tmp 27) ?ho ?hN q8 (#[.int .i64 0, .string ByteArray.empty, .string ByteArray.empty, .string ByteArray.empty, .bool false, .int .i64 0]) ?hx ?hy 25 _ BKq8.out ?hi ?hold ?h1 ?_; (case hg => rfl); (case ho => rfl); (case hN => rfl); (case hx => rfl); (case hy => rfl); (case hi => exact isz25); (case hold => rfl); (case h1 => first | rfl | exact one25 _ | simp [Value.oneCell']); intro w3 hw; have HB3 := Aside0.mk (show Below w.heap.size w w3 from by rw [hw]; exact below_setRow HB2.out HQq8.out _); have BKq8 := Aside0.mk (show w3.heap[q8]? = some (.cells (#[.int .i64 0, .string ByteArray.empty, .string ByteArray.empty, .string ByteArray.empty, .bool false, .int .i64 0]) 25 (0, 0)) from by rw [hw]; exact setRow_heap _ _ _ _ _ _ BKq8.out); clear hw))
  (try simp only [Exit.inBlock, Exit.then])
  refine bodyPost_ret (results_c3 Tryd.results14 _ _ q8 25 _ (0, 0) _ rfl BKq8.out Tryd.underlying25 rfl isz25) rfl ?_
  exact ⟨rfl, HB3.out⟩
set_option maxHeartbeats 1600000 in
set_option maxRecDepth 100000 in
theorem send_no {w : World} {q : Nat} {c : Int} (hL : Laid w) (now spi n : Int) (hn : 0 ≤ n) (hv : ∀ W, Below w.heap.size w W → Calls Tryd.prog 27 #[.pointer (some ⟨q, 0, none⟩), .int .i64 now, .int .i64 spi, .bool true] W (FindNo c W)) :
    Calls Tryd.prog 14 #[.pointer (some ⟨q, 0, none⟩), .int .i64 now, .int .i64 spi, .int .i64 n] w fun e w' => e = .returned (.tuple #[v25 z25, .int .u64 0, .int .i64 c]) ∧ Below w.heap.size w w' := by
  have HV := Aside0.mk hv
  have HL := Aside0.mk fun (W : World) (hb : Below w.heap.size w W) => hL.below hL.pos hb
  have hn1 : decide (n < 0) = false := decide_eq_false (by omega)
  clear hn
  clear hv hL
  go_enter Tryd.func14, Tryd.ntmps14
  go_wp2_with (first | ((with_reducible refine gate_dst (N := 8) rfl ?_); refine box_event ?hg (N := 8) ?hd (cs := #[.int .i64 0, .string ByteArray.empty, .string ByteArray.empty, .string ByteArray.empty, .bool false, .int .i64 0]) (t := 25) ?hr ?_; (case hd => rfl); (case hg => rfl); (case hr => first | (go_simp; done) | (go_simp; rfl)); intro q8 hq w1 hbox hb; have BKq8 := Aside0.mk hbox; have HQq8 := Aside0.mk (show w.heap.size ≤ q8 from by rw [hq]; exact Nat.le_refl _); have HB1 := Aside0.mk hb; clear hbox hb hq))
  refine (HV.out w1 HB1.out).mono ?_
  rintro e w2 ⟨⟨v, rfl, hv⟩, hb⟩
  have HB2 := Aside0.mk (HB1.out.trans (hb.mono HB1.out.size))
  have BKq8 := Aside0.mk (blk_below BKq8.out hb)
  have NW := Aside0.mk (number_walk (HL.out w2 HB2.out) hv)
  obtain ⟨k, s, rfl, _⟩ := hv
  clear hb
  go_wp2_with (fail)
  refine NW.out.mono ?_
  rintro e w3 ⟨rfl, hb⟩
  have HB3 := Aside0.mk (HB2.out.trans (hb.mono HB2.out.size))
  have BKq8 := Aside0.mk (blk_below BKq8.out hb)
  clear hb
  go_wp2_with (first | ((with_reducible refine gate_store (t := 25) (p := 8) rfl ?_); refine store_rowE ?hg 25 (.tmp 8) (.tmp 31) ?ho ?hN q8 (#[.int .i64 0, .string ByteArray.empty, .string ByteArray.empty, .string ByteArray.empty, .bool false, .int .i64 0]) ?hx ?hy 25 _ BKq8.out ?hi ?hold ?h1 ?_; (case hg => rfl); (case ho => rfl); (case hN => rfl); (case hx => rfl); (case hy => rfl); (case hi => exact isz25); (case hold => rfl); (case h1 => first | rfl | exact one25 _ | simp [Value.oneCell']); intro w4 hw; have HB4 := Aside0.mk (show Below w.heap.size w w4 from by rw [hw]; exact below_setRow HB3.out HQq8.out _); have BKq8 := Aside0.mk (show w4.heap[q8]? = some (.cells (#[.int .i64 0, .string ByteArray.empty, .string ByteArray.empty, .string ByteArray.empty, .bool false, .int .i64 0]) 25 (0, 0)) from by rw [hw]; exact setRow_heap _ _ _ _ _ _ BKq8.out); clear hw))
  (try simp only [Exit.inBlock, Exit.then])
  refine bodyPost_ret (results_c3 Tryd.results14 _ _ q8 25 _ (0, 0) _ rfl BKq8.out Tryd.underlying25 rfl isz25) rfl ?_
  exact ⟨rfl, HB4.out⟩
set_option maxHeartbeats 1600000 in
set_option maxRecDepth 100000 in
theorem send_nil0 {w : World}  {c : Int} (hL : Laid w) (now spi n : Int)  (hv : ∀ W, Below w.heap.size w W → Calls Tryd.prog 27 #[.pointer none, .int .i64 now, .int .i64 spi, .bool true] W (FindNo c W)) :
    Calls Tryd.prog 14 #[.pointer none, .int .i64 now, .int .i64 spi, .int .i64 n] w fun e w' => e = .returned (.tuple #[v25 z25, .int .u64 0, .int .i64 c]) ∧ Below w.heap.size w w' := by
  have HV := Aside0.mk hv
  have HL := Aside0.mk fun (W : World) (hb : Below w.heap.size w W) => hL.below hL.pos hb
  clear hv hL
  go_enter Tryd.func14, Tryd.ntmps14
  go_wp2_with (first | ((with_reducible refine gate_dst (N := 8) rfl ?_); refine box_event ?hg (N := 8) ?hd (cs := #[.int .i64 0, .string ByteArray.empty, .string ByteArray.empty, .string ByteArray.empty, .bool false, .int .i64 0]) (t := 25) ?hr ?_; (case hd => rfl); (case hg => rfl); (case hr => first | (go_simp; done) | (go_simp; rfl)); intro q8 hq w1 hbox hb; have BKq8 := Aside0.mk hbox; have HQq8 := Aside0.mk (show w.heap.size ≤ q8 from by rw [hq]; exact Nat.le_refl _); have HB1 := Aside0.mk hb; clear hbox hb hq))
  refine (HV.out w1 HB1.out).mono ?_
  rintro e w2 ⟨⟨v, rfl, hv⟩, hb⟩
  have HB2 := Aside0.mk (HB1.out.trans (hb.mono HB1.out.size))
  have BKq8 := Aside0.mk (blk_below BKq8.out hb)
  have NW := Aside0.mk (number_walk (HL.out w2 HB2.out) hv)
  obtain ⟨k, s, rfl, _⟩ := hv
  clear hb
  go_wp2_with (fail)
  refine NW.out.mono ?_
  rintro e w3 ⟨rfl, hb⟩
  have HB3 := Aside0.mk (HB2.out.trans (hb.mono HB2.out.size))
  have BKq8 := Aside0.mk (blk_below BKq8.out hb)
  clear hb
  go_wp2_with (first | ((with_reducible refine gate_store (t := 25) (p := 8) rfl ?_); refine store_rowE ?hg 25 (.tmp 8) (.tmp 31) ?ho ?hN q8 (#[.int .i64 0, .string ByteArray.empty, .string ByteArray.empty, .string ByteArray.empty, .bool false, .int .i64 0]) ?hx ?hy 25 _ BKq8.out ?hi ?hold ?h1 ?_; (case hg => rfl); (case ho => rfl); (case hN => rfl); (case hx => rfl); (case hy => rfl); (case hi => exact isz25); (case hold => rfl); (case h1 => first | rfl | exact one25 _ | simp [Value.oneCell']); intro w4 hw; have HB4 := Aside0.mk (show Below w.heap.size w w4 from by rw [hw]; exact below_setRow HB3.out HQq8.out _); have BKq8 := Aside0.mk (show w4.heap[q8]? = some (.cells (#[.int .i64 0, .string ByteArray.empty, .string ByteArray.empty, .string ByteArray.empty, .bool false, .int .i64 0]) 25 (0, 0)) from by rw [hw]; exact setRow_heap _ _ _ _ _ _ BKq8.out); clear hw))
  (try simp only [Exit.inBlock, Exit.then])
  refine bodyPost_ret (results_c3 Tryd.results14 _ _ q8 25 _ (0, 0) _ rfl BKq8.out Tryd.underlying25 rfl isz25) rfl ?_
  exact ⟨rfl, HB4.out⟩
set_option maxHeartbeats 1600000 in
set_option maxRecDepth 100000 in
theorem send_full {w : World} {q P : Nat} {s : Nat} {wd : Bool} (now spi n : Int) (hn : 0 ≤ n) (hb4 : ∀ W, Below w.heap.size w W → W.cell? ⟨P, 4, none⟩ = some (.bool wd)) (hb14 : ∀ W, Below w.heap.size w W → W.cell? ⟨P, 14, none⟩ = some (.int .u64 (s : Int))) (hfull : ((s : Int) == 18446744073709551615) = true ∨ ((s : Int) == 18446744073709551615) = false ∧ wd = false ∧ ((s : Int) == 4294967295) = true) (hv : ∀ W, Below w.heap.size w W → Calls Tryd.prog 27 #[.pointer (some ⟨q, 0, none⟩), .int .i64 now, .int .i64 spi, .bool true] W (FindYes P W)) :
    Calls Tryd.prog 14 #[.pointer (some ⟨q, 0, none⟩), .int .i64 now, .int .i64 spi, .int .i64 n] w fun e w' => e = .returned (.tuple #[v25 z25, .int .u64 0, .int .i64 121]) ∧ Below w.heap.size w w' := by
  have HV := Aside0.mk hv
  have H4 := Aside0.mk hb4
  have H14 := Aside0.mk hb14
  have hn1 : decide (n < 0) = false := decide_eq_false (by omega)
  clear hv hb4 hb14 hn
  rcases hfull with h1 | ⟨h1, rfl, h2⟩
  · go_enter Tryd.func14, Tryd.ntmps14
    go_wp2_with (first | ((with_reducible refine gate_dst (N := 8) rfl ?_); refine box_event ?hg (N := 8) ?hd (cs := #[.int .i64 0, .string ByteArray.empty, .string ByteArray.empty, .string ByteArray.empty, .bool false, .int .i64 0]) (t := 25) ?hr ?_; (case hd => rfl); (case hg => rfl); (case hr => first | (go_simp; done) | (go_simp; rfl)); intro q8 hq w1 hbox hb; have BKq8 := Aside0.mk hbox; have HQq8 := Aside0.mk (show w.heap.size ≤ q8 from by rw [hq]; exact Nat.le_refl _); have HB1 := Aside0.mk hb; clear hbox hb hq))
    refine (HV.out w1 HB1.out).mono ?_
    rintro e w2 ⟨rfl, hb⟩
    have HB2 := Aside0.mk (HB1.out.trans (hb.mono HB1.out.size))
    have BKq8 := Aside0.mk (blk_below BKq8.out hb)
    have k4 := H4.out w2 HB2.out
    have k14 := H14.out w2 HB2.out
    clear hb
    go_wp2_with (first | ((with_reducible refine gate_store (t := 25) (p := 8) rfl ?_); refine store_rowE ?hg 25 (.tmp 8) (.tmp 56) ?ho ?hN q8 (#[.int .i64 0, .string ByteArray.empty, .string ByteArray.empty, .string ByteArray.empty, .bool false, .int .i64 0]) ?hx ?hy 25 _ BKq8.out ?hi ?hold ?h1 ?_; (case hg => rfl); (case ho => rfl); (case hN => rfl); (case hx => rfl); (case hy => rfl); (case hi => exact isz25); (case hold => rfl); (case h1 => first | rfl | exact one25 _ | simp [Value.oneCell']); intro w3 hw; have HB3 := Aside0.mk (show Below w.heap.size w w3 from by rw [hw]; exact below_setRow HB2.out HQq8.out _); have BKq8 := Aside0.mk (show w3.heap[q8]? = some (.cells (#[.int .i64 0, .string ByteArray.empty, .string ByteArray.empty, .string ByteArray.empty, .bool false, .int .i64 0]) 25 (0, 0)) from by rw [hw]; exact setRow_heap _ _ _ _ _ _ BKq8.out); clear hw))
    (try simp only [Exit.inBlock, Exit.then])
    refine bodyPost_ret (results_c3 Tryd.results14 _ _ q8 25 _ (0, 0) _ rfl BKq8.out Tryd.underlying25 rfl isz25) rfl ?_
    exact ⟨rfl, HB3.out⟩
  · go_enter Tryd.func14, Tryd.ntmps14
    go_wp2_with (first | ((with_reducible refine gate_dst (N := 8) rfl ?_); refine box_event ?hg (N := 8) ?hd (cs := #[.int .i64 0, .string ByteArray.empty, .string ByteArray.empty, .string ByteArray.empty, .bool false, .int .i64 0]) (t := 25) ?hr ?_; (case hd => rfl); (case hg => rfl); (case hr => first | (go_simp; done) | (go_simp; rfl)); intro q8 hq w1 hbox hb; have BKq8 := Aside0.mk hbox; have HQq8 := Aside0.mk (show w.heap.size ≤ q8 from by rw [hq]; exact Nat.le_refl _); have HB1 := Aside0.mk hb; clear hbox hb hq))
    refine (HV.out w1 HB1.out).mono ?_
    rintro e w2 ⟨rfl, hb⟩
    have HB2 := Aside0.mk (HB1.out.trans (hb.mono HB1.out.size))
    have BKq8 := Aside0.mk (blk_below BKq8.out hb)
    have k4 := H4.out w2 HB2.out
    have k14 := H14.out w2 HB2.out
    clear hb
    go_wp2_with (first | ((with_reducible refine gate_store (t := 25) (p := 8) rfl ?_); refine store_rowE ?hg 25 (.tmp 8) (.tmp 56) ?ho ?hN q8 (#[.int .i64 0, .string ByteArray.empty, .string ByteArray.empty, .string ByteArray.empty, .bool false, .int .i64 0]) ?hx ?hy 25 _ BKq8.out ?hi ?hold ?h1 ?_; (case hg => rfl); (case ho => rfl); (case hN => rfl); (case hx => rfl); (case hy => rfl); (case hi => exact isz25); (case hold => rfl); (case h1 => first | rfl | exact one25 _ | simp [Value.oneCell']); intro w3 hw; have HB3 := Aside0.mk (show Below w.heap.size w w3 from by rw [hw]; exact below_setRow HB2.out HQq8.out _); have BKq8 := Aside0.mk (show w3.heap[q8]? = some (.cells (#[.int .i64 0, .string ByteArray.empty, .string ByteArray.empty, .string ByteArray.empty, .bool false, .int .i64 0]) 25 (0, 0)) from by rw [hw]; exact setRow_heap _ _ _ _ _ _ BKq8.out); clear hw))
    (try simp only [Exit.inBlock, Exit.then])
    refine bodyPost_ret (results_c3 Tryd.results14 _ _ q8 25 _ (0, 0) _ rfl BKq8.out Tryd.underlying25 rfl isz25) rfl ?_
    exact ⟨rfl, HB3.out⟩
set_option maxHeartbeats 3200000 in
set_option maxRecDepth 100000 in
theorem send_ok {w : World} {base q P : Nat} {s : Nat} {wd : Bool} {bo bs : Int} {x : S25} {es' : List En} (now spi n : Int) (hn : 0 ≤ n) (hsum : IntKind.i64.wrap (bo + n) = bs) (hb : base ≤ w.heap.size) (hs1 : IntKind.u64.wrap ((s : Int) + 1) = ((s + 1 : Nat) : Int))
    (hc : ∀ W, Below w.heap.size w W → W.cell? ⟨P, 4, none⟩ = some (.bool wd) ∧ W.cell? ⟨P, 14, none⟩ = some (.int .u64 (s : Int)) ∧ W.cell? ⟨P, 13, none⟩ = some (.int .i64 bo) ∧ W.frozen? ⟨P, 13, none⟩ = false ∧ W.frozen? ⟨P, 14, none⟩ = false)
    (htab : ∀ W, Below w.heap.size w W → ∃ v ps, SadP ((W.setCell ⟨P, 14, none⟩ (.int .u64 ((s + 1 : Nat) : Int))).setCell ⟨P, 13, none⟩ (.int .i64 bs)) base q v ps es' ∧ Turn TP base W ((W.setCell ⟨P, 14, none⟩ (.int .u64 ((s + 1 : Nat) : Int))).setCell ⟨P, 13, none⟩ (.int .i64 bs)) ∧ (∀ W', W'.heap[P]? = ((W.setCell ⟨P, 14, none⟩ (.int .u64 ((s + 1 : Nat) : Int))).setCell ⟨P, 13, none⟩ (.int .i64 bs)).heap[P]? → (loadVar 25 ⟨P, 0, none⟩).run Tryd.prog W' = .ok (.agg (enc25 x).toArray) W' ∧ W'.cell? ⟨P, 14, none⟩ = some (.int .u64 ((s + 1 : Nat) : Int))) ∧ ∃ cs, W.heap[P]? = some (.cells cs 71 (0, 0)))
    (h1 : ((s : Int) == 18446744073709551615) = false) (h2 : wd = true ∨ wd = false ∧ ((s : Int) == 4294967295) = false) (hv : ∀ W, Below w.heap.size w W → Calls Tryd.prog 27 #[.pointer (some ⟨q, 0, none⟩), .int .i64 now, .int .i64 spi, .bool true] W (FindYes P W)) :
    Calls Tryd.prog 14 #[.pointer (some ⟨q, 0, none⟩), .int .i64 now, .int .i64 spi, .int .i64 n] w (PgQ base q es' (.tuple #[v25 x, .int .u64 ((s + 1 : Nat) : Int), .int .i64 0]) w) := by
  have HV := Aside0.mk hv
  have HC := Aside0.mk hc
  have HT := Aside0.mk htab
  have hn1 : decide (n < 0) = false := decide_eq_false (by omega)
  obtain ⟨s1, hse⟩ : ∃ k, s + 1 = k := ⟨_, rfl⟩
  rw [hse] at hs1 HT ⊢
  clear hv hc htab hn hb hse
  rcases h2 with rfl | ⟨rfl, h2⟩
  · go_enter Tryd.func14, Tryd.ntmps14
    go_wp2_with (first | ((with_reducible refine gate_dst (N := 8) rfl ?_); refine box_event ?hg (N := 8) ?hd (cs := #[.int .i64 0, .string ByteArray.empty, .string ByteArray.empty, .string ByteArray.empty, .bool false, .int .i64 0]) (t := 25) ?hr ?_; (case hd => rfl); (case hg => rfl); (case hr => first | (go_simp; done) | (go_simp; rfl)); intro q8 hq w1 hbox hb; have BKq8 := Aside0.mk hbox; have HQq8 := Aside0.mk (show w.heap.size ≤ q8 from by rw [hq]; exact Nat.le_refl _); have HB1 := Aside0.mk hb; clear hbox hb hq))
    refine (HV.out w1 HB1.out).mono ?_
    rintro e w2 ⟨rfl, hb⟩
    have HB2 := Aside0.mk (HB1.out.trans (hb.mono HB1.out.size))
    have BKq8 := Aside0.mk (blk_below BKq8.out hb)
    obtain ⟨k4, k14, k13, f13, f14⟩ := HC.out w2 HB2.out
    have HTT := Aside0.mk (HT.out w2 HB2.out)
    clear hb
    go_wp2_with (fail)
    obtain ⟨v', ps', hS, tS, hLD, cs, hcs⟩ := HTT.out
    have HLD := Aside0.mk hLD
    have HPQ := Aside0.mk (show P ≠ q8 from blk_ne hcs BKq8.out (by decide))
    have HS := Aside0.mk hS
    have TS := Aside0.mk ((Turn.of_below HB2.out).trans tS)
    have BKS := Aside0.mk (show ((w2.setCell ⟨P, 14, none⟩ (.int .u64 (s1 : Int))).setCell ⟨P, 13, none⟩ (.int .i64 bs)).heap[q8]? = some (.cells #[.int .i64 0, .string ByteArray.empty, .string ByteArray.empty, .string ByteArray.empty, .bool false, .int .i64 0] 25 (0, 0)) from blk_far (blk_far BKq8.out (Ne.symm HPQ.out) _) (Ne.symm HPQ.out) _)
    obtain ⟨wS, hwS⟩ : ∃ W, (w2.setCell ⟨P, 14, none⟩ (.int .u64 (s1 : Int))).setCell ⟨P, 13, none⟩ (.int .i64 bs) = W := ⟨_, rfl⟩
    rw [hwS] at HS TS BKS HLD ⊢
    clear hS tS hLD hcs hwS k4 k14 k13 f13 f14 HTT
    refine start_ (n := 12) (S := fun W => W.heap[P]? = wS.heap[P]?) (ds := []) #[false, false, false, false, false, false, false, false, false, false, false, false] (by kernel_rfl) rfl rfl rfl (fun hHeld => ?_)
    refine pure_ (i := 0) (N := some 72) (v := ?_) (a' := ?_) #[true, false, false, false, false, false, false, false, false, false, false, false] rfl rfl (by kernel_rfl) (fun _ _ _ h => h) (Or.inl ⟨by rfl, ?_⟩) ?_ ?_
    rotate_left
    · intro w'
      go_simp
      with_reducible rfl
    rotate_left
    · simp only [Act.put, List.setIfInBounds_toArray, List.set_cons_zero, List.set_cons_succ]
      rfl
    refine pure_ (i := 1) (N := some 73) (v := ?_) (a' := ?_) #[true, true, false, false, false, false, false, false, false, false, false, false] rfl rfl (by kernel_rfl) (fun _ _ _ h => h) (Or.inl ⟨by rfl, ?_⟩) ?_ ?_
    rotate_left
    · intro w'
      go_simp
      with_reducible rfl
    rotate_left
    · simp only [Act.put, List.setIfInBounds_toArray, List.set_cons_zero, List.set_cons_succ]
      rfl
    refine pure_ (i := 2) (N := some 74) (v := ?_) (a' := ?_) #[true, true, true, false, false, false, false, false, false, false, false, false] rfl rfl (by kernel_rfl) (fun _ _ _ h => h) (Or.inl ⟨by rfl, ?_⟩) ?_ ?_
    rotate_left
    · intro w'
      go_simp
      with_reducible rfl
    rotate_left
    · simp only [Act.put, List.setIfInBounds_toArray, List.set_cons_zero, List.set_cons_succ]
      rfl
    refine pure_ (i := 3) (N := some 75) (v := ?_) (a' := ?_) #[true, true, true, true, false, false, false, false, false, false, false, false] rfl rfl (by kernel_rfl) (fun _ _ _ h => h) (Or.inl ⟨by rfl, ?_⟩) ?_ ?_
    rotate_left
    · intro w'
      go_simp
      with_reducible rfl
    rotate_left
    · simp only [Act.put, List.setIfInBounds_toArray, List.set_cons_zero, List.set_cons_succ]
      rfl
    refine take_ (i := 4) (N := some 76) (v := ?_) (a' := ?_) #[true, true, true, true, true, false, false, false, false, false, false, false] rfl rfl (by kernel_rfl) (fun _ _ _ h => h) (Or.inl ⟨by rfl, ?_⟩) hHeld ?_ ?_
    rotate_left
    · intro w' s0
      obtain ⟨LD, k14⟩ := HLD.out _ s0
      refine load_runA 25 (.tmp 75) ⟨P, 0, none⟩ (#[.int .i64 x.f0, .string x.f1, .string x.f2, .string x.f3, .bool x.f4, .int .i64 x.f5]) ?_ ?_ LD
      · rfl
      · rfl
    rotate_left
    · simp only [Act.put, List.setIfInBounds_toArray, List.set_cons_zero, List.set_cons_succ]
      rfl
    refine pure_ (i := 5) (N := some 77) (v := ?_) (a' := ?_) #[true, true, true, true, true, true, false, false, false, false, false, false] rfl rfl (by kernel_rfl) (fun _ _ _ h => h) (Or.inl ⟨by rfl, ?_⟩) ?_ ?_
    rotate_left
    · intro w'
      go_simp
      with_reducible rfl
    rotate_left
    · simp only [Act.put, List.setIfInBounds_toArray, List.set_cons_zero, List.set_cons_succ]
      rfl
    refine pure_ (i := 6) (N := some 78) (v := ?_) (a' := ?_) #[true, true, true, true, true, true, true, false, false, false, false, false] rfl rfl (by kernel_rfl) (fun _ _ _ h => h) (Or.inl ⟨by rfl, ?_⟩) ?_ ?_
    rotate_left
    · intro w'
      go_simp
      with_reducible rfl
    rotate_left
    · simp only [Act.put, List.setIfInBounds_toArray, List.set_cons_zero, List.set_cons_succ]
      rfl
    refine pure_ (i := 7) (N := some 79) (v := ?_) (a' := ?_) #[true, true, true, true, true, true, true, true, false, false, false, false] rfl rfl (by kernel_rfl) (fun _ _ _ h => h) (Or.inl ⟨by rfl, ?_⟩) ?_ ?_
    rotate_left
    · intro w'
      go_simp
      with_reducible rfl
    rotate_left
    · simp only [Act.put, List.setIfInBounds_toArray, List.set_cons_zero, List.set_cons_succ]
      rfl
    refine take_ (i := 8) (N := some 80) (v := ?_) (a' := ?_) #[true, true, true, true, true, true, true, true, true, false, false, false] rfl rfl (by kernel_rfl) (fun _ _ _ h => h) (Or.inl ⟨by rfl, ?_⟩) hHeld ?_ ?_
    rotate_left
    · intro w' s0
      obtain ⟨LD, k14⟩ := HLD.out _ s0
      go_simp
      with_reducible rfl
    rotate_left
    · simp only [Act.put, List.setIfInBounds_toArray, List.set_cons_zero, List.set_cons_succ]
      rfl
    refine one_ (i := 9) (N := none) #[true, true, true, true, true, true, true, true, true, true, false, false] rfl rfl (by kernel_rfl) (by decide) (fun K hK => ?_)
    refine skip_ (w1 := wS.drew.setRow q8 (#[.int .i64 x.f0, .string x.f1, .string x.f2, .string x.f3, .bool x.f4, .int .i64 x.f5])) (by rfl) rfl ?_ ?_
    · refine store_runA 25 (.tmp 8) (.tmp 76) rfl q8 (#[.int .i64 x.f0, .string x.f1, .string x.f2, .string x.f3, .bool x.f4, .int .i64 x.f5]) ?_ ?_ 25 _ (blk_drew BKS.out) isz25 rfl (one25 x)
      · rfl
      · rfl
    refine hK.out _ _ ((setRow_other _ _ _ _ HPQ.out).trans hHeld) (fun hHeld => ?_)
    have BK9 := Aside0.mk (show (wS.drew.setRow q8 (#[.int .i64 x.f0, .string x.f1, .string x.f2, .string x.f3, .bool x.f4, .int .i64 x.f5])).heap[q8]? = some (.cells (#[.int .i64 x.f0, .string x.f1, .string x.f2, .string x.f3, .bool x.f4, .int .i64 x.f5]) 25 (0, 0)) from setRow_heap _ _ _ _ _ _ (blk_drew BKS.out))
    have H9 := Aside0.mk (SadP.setRow HS.out.drew (blk_drew BKS.out) (by unfold Ty.has; decide) (#[.int .i64 x.f0, .string x.f1, .string x.f2, .string x.f3, .bool x.f4, .int .i64 x.f5]))
    have T9 := Aside0.mk (Turn.setRow TS.out.drew HQq8.out (#[.int .i64 x.f0, .string x.f1, .string x.f2, .string x.f3, .bool x.f4, .int .i64 x.f5]))
    obtain ⟨w9, hw9⟩ : ∃ W, wS.drew.setRow q8 (#[.int .i64 x.f0, .string x.f1, .string x.f2, .string x.f3, .bool x.f4, .int .i64 x.f5]) = W := ⟨_, rfl⟩
    rw [hw9] at BK9 H9 T9 hHeld ⊢
    clear hK K hw9
    refine pure_ (i := 10) (N := some 9) (v := ?_) (a' := ?_) #[true, true, true, true, true, true, true, true, true, true, true, false] rfl rfl (by kernel_rfl) (fun _ _ _ h => h) (Or.inl ⟨by rfl, ?_⟩) ?_ ?_
    rotate_left
    · intro w'
      go_simp
      with_reducible rfl
    rotate_left
    · simp only [Act.put, List.setIfInBounds_toArray, List.set_cons_zero, List.set_cons_succ]
      rfl
    refine pure_ (i := 11) (N := some 10) (v := ?_) (a' := ?_) #[true, true, true, true, true, true, true, true, true, true, true, true] rfl rfl (by kernel_rfl) (fun _ _ _ h => h) (Or.inl ⟨by rfl, ?_⟩) ?_ ?_
    rotate_left
    · intro w'
      go_simp
      with_reducible rfl
    rotate_left
    · simp only [Act.put, List.setIfInBounds_toArray, List.set_cons_zero, List.set_cons_succ]
      rfl
    refine done_ (by kernel_rfl) ?_
    (try simp only [Exit.inBlock, Exit.then])
    go_wp2_with (fail)
    (try simp only [Exit.inBlock, Exit.then])
    refine bodyPost_ret (results_c3 Tryd.results14 _ _ q8 25 _ (0, 0) _ rfl BK9.out Tryd.underlying25 rfl isz25) rfl ?_
    exact ⟨rfl, ⟨_, _, H9.out⟩, T9.out⟩
  · go_enter Tryd.func14, Tryd.ntmps14
    go_wp2_with (first | ((with_reducible refine gate_dst (N := 8) rfl ?_); refine box_event ?hg (N := 8) ?hd (cs := #[.int .i64 0, .string ByteArray.empty, .string ByteArray.empty, .string ByteArray.empty, .bool false, .int .i64 0]) (t := 25) ?hr ?_; (case hd => rfl); (case hg => rfl); (case hr => first | (go_simp; done) | (go_simp; rfl)); intro q8 hq w1 hbox hb; have BKq8 := Aside0.mk hbox; have HQq8 := Aside0.mk (show w.heap.size ≤ q8 from by rw [hq]; exact Nat.le_refl _); have HB1 := Aside0.mk hb; clear hbox hb hq))
    refine (HV.out w1 HB1.out).mono ?_
    rintro e w2 ⟨rfl, hb⟩
    have HB2 := Aside0.mk (HB1.out.trans (hb.mono HB1.out.size))
    have BKq8 := Aside0.mk (blk_below BKq8.out hb)
    obtain ⟨k4, k14, k13, f13, f14⟩ := HC.out w2 HB2.out
    have HTT := Aside0.mk (HT.out w2 HB2.out)
    clear hb
    go_wp2_with (fail)
    obtain ⟨v', ps', hS, tS, hLD, cs, hcs⟩ := HTT.out
    have HLD := Aside0.mk hLD
    have HPQ := Aside0.mk (show P ≠ q8 from blk_ne hcs BKq8.out (by decide))
    have HS := Aside0.mk hS
    have TS := Aside0.mk ((Turn.of_below HB2.out).trans tS)
    have BKS := Aside0.mk (show ((w2.setCell ⟨P, 14, none⟩ (.int .u64 (s1 : Int))).setCell ⟨P, 13, none⟩ (.int .i64 bs)).heap[q8]? = some (.cells #[.int .i64 0, .string ByteArray.empty, .string ByteArray.empty, .string ByteArray.empty, .bool false, .int .i64 0] 25 (0, 0)) from blk_far (blk_far BKq8.out (Ne.symm HPQ.out) _) (Ne.symm HPQ.out) _)
    obtain ⟨wS, hwS⟩ : ∃ W, (w2.setCell ⟨P, 14, none⟩ (.int .u64 (s1 : Int))).setCell ⟨P, 13, none⟩ (.int .i64 bs) = W := ⟨_, rfl⟩
    rw [hwS] at HS TS BKS HLD ⊢
    clear hS tS hLD hcs hwS k4 k14 k13 f13 f14 HTT
    refine start_ (n := 12) (S := fun W => W.heap[P]? = wS.heap[P]?) (ds := []) #[false, false, false, false, false, false, false, false, false, false, false, false] (by kernel_rfl) rfl rfl rfl (fun hHeld => ?_)
    refine pure_ (i := 0) (N := some 72) (v := ?_) (a' := ?_) #[true, false, false, false, false, false, false, false, false, false, false, false] rfl rfl (by kernel_rfl) (fun _ _ _ h => h) (Or.inl ⟨by rfl, ?_⟩) ?_ ?_
    rotate_left
    · intro w'
      go_simp
      with_reducible rfl
    rotate_left
    · simp only [Act.put, List.setIfInBounds_toArray, List.set_cons_zero, List.set_cons_succ]
      rfl
    refine pure_ (i := 1) (N := some 73) (v := ?_) (a' := ?_) #[true, true, false, false, false, false, false, false, false, false, false, false] rfl rfl (by kernel_rfl) (fun _ _ _ h => h) (Or.inl ⟨by rfl, ?_⟩) ?_ ?_
    rotate_left
    · intro w'
      go_simp
      with_reducible rfl
    rotate_left
    · simp only [Act.put, List.setIfInBounds_toArray, List.set_cons_zero, List.set_cons_succ]
      rfl
    refine pure_ (i := 2) (N := some 74) (v := ?_) (a' := ?_) #[true, true, true, false, false, false, false, false, false, false, false, false] rfl rfl (by kernel_rfl) (fun _ _ _ h => h) (Or.inl ⟨by rfl, ?_⟩) ?_ ?_
    rotate_left
    · intro w'
      go_simp
      with_reducible rfl
    rotate_left
    · simp only [Act.put, List.setIfInBounds_toArray, List.set_cons_zero, List.set_cons_succ]
      rfl
    refine pure_ (i := 3) (N := some 75) (v := ?_) (a' := ?_) #[true, true, true, true, false, false, false, false, false, false, false, false] rfl rfl (by kernel_rfl) (fun _ _ _ h => h) (Or.inl ⟨by rfl, ?_⟩) ?_ ?_
    rotate_left
    · intro w'
      go_simp
      with_reducible rfl
    rotate_left
    · simp only [Act.put, List.setIfInBounds_toArray, List.set_cons_zero, List.set_cons_succ]
      rfl
    refine take_ (i := 4) (N := some 76) (v := ?_) (a' := ?_) #[true, true, true, true, true, false, false, false, false, false, false, false] rfl rfl (by kernel_rfl) (fun _ _ _ h => h) (Or.inl ⟨by rfl, ?_⟩) hHeld ?_ ?_
    rotate_left
    · intro w' s0
      obtain ⟨LD, k14⟩ := HLD.out _ s0
      refine load_runA 25 (.tmp 75) ⟨P, 0, none⟩ (#[.int .i64 x.f0, .string x.f1, .string x.f2, .string x.f3, .bool x.f4, .int .i64 x.f5]) ?_ ?_ LD
      · rfl
      · rfl
    rotate_left
    · simp only [Act.put, List.setIfInBounds_toArray, List.set_cons_zero, List.set_cons_succ]
      rfl
    refine pure_ (i := 5) (N := some 77) (v := ?_) (a' := ?_) #[true, true, true, true, true, true, false, false, false, false, false, false] rfl rfl (by kernel_rfl) (fun _ _ _ h => h) (Or.inl ⟨by rfl, ?_⟩) ?_ ?_
    rotate_left
    · intro w'
      go_simp
      with_reducible rfl
    rotate_left
    · simp only [Act.put, List.setIfInBounds_toArray, List.set_cons_zero, List.set_cons_succ]
      rfl
    refine pure_ (i := 6) (N := some 78) (v := ?_) (a' := ?_) #[true, true, true, true, true, true, true, false, false, false, false, false] rfl rfl (by kernel_rfl) (fun _ _ _ h => h) (Or.inl ⟨by rfl, ?_⟩) ?_ ?_
    rotate_left
    · intro w'
      go_simp
      with_reducible rfl
    rotate_left
    · simp only [Act.put, List.setIfInBounds_toArray, List.set_cons_zero, List.set_cons_succ]
      rfl
    refine pure_ (i := 7) (N := some 79) (v := ?_) (a' := ?_) #[true, true, true, true, true, true, true, true, false, false, false, false] rfl rfl (by kernel_rfl) (fun _ _ _ h => h) (Or.inl ⟨by rfl, ?_⟩) ?_ ?_
    rotate_left
    · intro w'
      go_simp
      with_reducible rfl
    rotate_left
    · simp only [Act.put, List.setIfInBounds_toArray, List.set_cons_zero, List.set_cons_succ]
      rfl
    refine take_ (i := 8) (N := some 80) (v := ?_) (a' := ?_) #[true, true, true, true, true, true, true, true, true, false, false, false] rfl rfl (by kernel_rfl) (fun _ _ _ h => h) (Or.inl ⟨by rfl, ?_⟩) hHeld ?_ ?_
    rotate_left
    · intro w' s0
      obtain ⟨LD, k14⟩ := HLD.out _ s0
      go_simp
      with_reducible rfl
    rotate_left
    · simp only [Act.put, List.setIfInBounds_toArray, List.set_cons_zero, List.set_cons_succ]
      rfl
    refine one_ (i := 9) (N := none) #[true, true, true, true, true, true, true, true, true, true, false, false] rfl rfl (by kernel_rfl) (by decide) (fun K hK => ?_)
    refine skip_ (w1 := wS.drew.setRow q8 (#[.int .i64 x.f0, .string x.f1, .string x.f2, .string x.f3, .bool x.f4, .int .i64 x.f5])) (by rfl) rfl ?_ ?_
    · refine store_runA 25 (.tmp 8) (.tmp 76) rfl q8 (#[.int .i64 x.f0, .string x.f1, .string x.f2, .string x.f3, .bool x.f4, .int .i64 x.f5]) ?_ ?_ 25 _ (blk_drew BKS.out) isz25 rfl (one25 x)
      · rfl
      · rfl
    refine hK.out _ _ ((setRow_other _ _ _ _ HPQ.out).trans hHeld) (fun hHeld => ?_)
    have BK9 := Aside0.mk (show (wS.drew.setRow q8 (#[.int .i64 x.f0, .string x.f1, .string x.f2, .string x.f3, .bool x.f4, .int .i64 x.f5])).heap[q8]? = some (.cells (#[.int .i64 x.f0, .string x.f1, .string x.f2, .string x.f3, .bool x.f4, .int .i64 x.f5]) 25 (0, 0)) from setRow_heap _ _ _ _ _ _ (blk_drew BKS.out))
    have H9 := Aside0.mk (SadP.setRow HS.out.drew (blk_drew BKS.out) (by unfold Ty.has; decide) (#[.int .i64 x.f0, .string x.f1, .string x.f2, .string x.f3, .bool x.f4, .int .i64 x.f5]))
    have T9 := Aside0.mk (Turn.setRow TS.out.drew HQq8.out (#[.int .i64 x.f0, .string x.f1, .string x.f2, .string x.f3, .bool x.f4, .int .i64 x.f5]))
    obtain ⟨w9, hw9⟩ : ∃ W, wS.drew.setRow q8 (#[.int .i64 x.f0, .string x.f1, .string x.f2, .string x.f3, .bool x.f4, .int .i64 x.f5]) = W := ⟨_, rfl⟩
    rw [hw9] at BK9 H9 T9 hHeld ⊢
    clear hK K hw9
    refine pure_ (i := 10) (N := some 9) (v := ?_) (a' := ?_) #[true, true, true, true, true, true, true, true, true, true, true, false] rfl rfl (by kernel_rfl) (fun _ _ _ h => h) (Or.inl ⟨by rfl, ?_⟩) ?_ ?_
    rotate_left
    · intro w'
      go_simp
      with_reducible rfl
    rotate_left
    · simp only [Act.put, List.setIfInBounds_toArray, List.set_cons_zero, List.set_cons_succ]
      rfl
    refine pure_ (i := 11) (N := some 10) (v := ?_) (a' := ?_) #[true, true, true, true, true, true, true, true, true, true, true, true] rfl rfl (by kernel_rfl) (fun _ _ _ h => h) (Or.inl ⟨by rfl, ?_⟩) ?_ ?_
    rotate_left
    · intro w'
      go_simp
      with_reducible rfl
    rotate_left
    · simp only [Act.put, List.setIfInBounds_toArray, List.set_cons_zero, List.set_cons_succ]
      rfl
    refine done_ (by kernel_rfl) ?_
    (try simp only [Exit.inBlock, Exit.then])
    go_wp2_with (fail)
    (try simp only [Exit.inBlock, Exit.then])
    refine bodyPost_ret (results_c3 Tryd.results14 _ _ q8 25 _ (0, 0) _ rfl BK9.out Tryd.underlying25 rfl isz25) rfl ?_
    exact ⟨rfl, ⟨_, _, H9.out⟩, T9.out⟩
theorem send_call {w : World} {base q k : Nat} {es : List En} (h : SadX w base q es) (hL : Laid w) (hl : es.length ≤ 1000) (now spi n : Int) (hn9 : n ≤ 1000000000) (hk : k ≤ 200) (hg : ∀ e ∈ es, Good k e) (h0 : -1000000000 ≤ now) (h1 : now ≤ 4000000000) :
    Calls Tryd.prog 14 #[.pointer (some ⟨q, 0, none⟩), .int .i64 now, .int .i64 spi, .int .i64 n] w (PgQ base q (sendF es now spi n).1 (.tuple #[v25 (sendF es now spi n).2.1, .int .u64 (sendF es now spi n).2.2.1, .int .i64 (sendF es now spi n).2.2.2]) w) := by
  obtain ⟨v, ps, hp⟩ := h
  have ht : ∀ e ∈ es, Timed e now := fun e he => (hg e he).timed h0 h1
  unfold sendF
  by_cases hn : n < 0
  · rw [if_pos hn]
    exact (send_neg now spi n hn fun W hb => live_any (hp.below hb) hl now spi true ht).mono fun e w' ⟨he, hb⟩ => ⟨he, ⟨_, _, hp.below hb⟩, .of_below hb⟩
  · rw [if_neg hn]
    by_cases hf : findI es spi true < es.length
    · rw [if_pos hf]
      by_cases ha : ageE (es.getD (findI es spi true) en0) now = 2
      · rw [if_pos ha]
        exact (send_no hL now spi n (by omega) fun W hb => live_hard now spi true (find_yes (hp.below hb) hl spi true hf) ((hp.below hb).at _ hf).blk (ht _ (getD_mem hf)) ha).mono fun e w' ⟨he, hb⟩ => ⟨he, ⟨_, _, hp.below hb⟩, .of_below hb⟩
      · rw [if_neg ha]
        have HV := fun (W : World) (hb : Below w.heap.size w W) => live_yes now spi true (find_yes (hp.below hb) hl spi true hf) ((hp.below hb).at _ hf).blk (ht _ (getD_mem hf)) ha
        have hgi := hg _ (getD_mem hf)
        obtain ⟨i, hi⟩ : ∃ i, findI es spi true = i := ⟨_, rfl⟩
        rw [hi] at hf HV hgi ⊢
        have hat := fun (W : World) (hb : Below w.heap.size w W) => ((hp.below hb).at i hf).blk
        by_cases hfull : fullB (es.getD i en0) = true
        · rw [if_pos hfull]
          refine (send_full (P := (ps.getD i pl0).p) (s := (es.getD i en0).sent) (wd := (es.getD i en0).life.f0.f4) now spi n (by omega) (fun W hb => (blk_cell (hat W hb) 4).trans rfl) (fun W hb => (blk_cell (hat W hb) 14).trans rfl) ?_ HV).mono fun e w' ⟨he, hb⟩ => ⟨he, ⟨_, _, hp.below hb⟩, .of_below hb⟩
          unfold fullB at hfull
          cases hA : (((es.getD i en0).sent : Int) == 18446744073709551615)
          · rw [hA] at hfull
            simp only [Bool.false_or, Bool.and_eq_true, Bool.not_eq_true'] at hfull
            exact .inr ⟨rfl, hfull.1, hfull.2⟩
          · exact .inl rfl
        · rw [if_neg hfull]
          have hfull := Bool.eq_false_iff.2 hfull
          have hsn := (hgi.send (n := n) (by omega) hn9 hfull).sent
          have hby := hgi.bytes
          refine send_ok (P := (ps.getD i pl0).p) (s := (es.getD i en0).sent) (wd := (es.getD i en0).life.f0.f4) (bo := (es.getD i en0).bytes) (bs := (es.getD i en0).bytes + n) (x := (es.getD i en0).life.f0) now spi n (by omega) (IntWalk.i64_in _ (by omega)) hp.base_le (by have : (es.getD i en0).sent + 1 < 18446744073709551616 := hsn; rw [IntKind.wrap_u64]; omega)
            (fun W hb => ⟨(blk_cell (hat W hb) 4).trans rfl, (blk_cell (hat W hb) 14).trans rfl, (blk_cell (hat W hb) 13).trans rfl, blk_frozen (hat W hb) 13, blk_frozen (hat W hb) 14⟩) (fun W hb => ?_) ?_ ?_ HV
          · obtain ⟨ps1, g1, t1, p1⟩ := set_tab (hp.below hb) i hf 14 (.int .u64 (((es.getD i en0).sent + 1 : Nat) : Int)) { es.getD i en0 with sent := (es.getD i en0).sent + 1 } rfl rfl rfl
            have hf1 : i < (es.set i { es.getD i en0 with sent := (es.getD i en0).sent + 1 }).length := by rw [List.length_set]; exact hf
            have hgd : (es.set i { es.getD i en0 with sent := (es.getD i en0).sent + 1 }).getD i en0 = { es.getD i en0 with sent := (es.getD i en0).sent + 1 } := by rw [getD_set _ _ _ _ _ hf, if_pos rfl]
            obtain ⟨ps2, g2, t2, p2⟩ := set_tab g1 i hf1 13 (.int .i64 ((es.getD i en0).bytes + n)) (sendE (es.getD i en0) n) (by rw [hgd]; rfl) (by rw [hgd]; rfl) (by rw [hgd]; rfl)
            rw [p1] at g2 t2 p2
            rw [List.set_set] at g2
            have hl2 := (g2.at i (by rw [List.length_set]; exact hf)).blk
            rw [p2, getD_set _ _ _ _ _ hf, if_pos rfl] at hl2
            refine ⟨v, ps2, g2, t1.trans t2, fun W' hW => ?_, _, hat W hb⟩
            rw [hl2] at hW
            exact ⟨load25 (e := sendE (es.getD i en0) n) hW, (blk_cell hW 14).trans rfl⟩
          · unfold fullB at hfull
            simp only [Bool.or_eq_false_iff] at hfull
            exact hfull.1
          · unfold fullB at hfull
            simp only [Bool.or_eq_false_iff] at hfull
            cases hw : (es.getD i en0).life.f0.f4
            · rw [hw] at hfull
              exact .inr ⟨rfl, by simpa using hfull.2⟩
            · exact .inl rfl
    · rw [if_neg hf]
      exact (send_no hL now spi n (by omega) fun W hb => live_no now spi true (find_no (hp.below hb) hl spi true hf)).mono fun e w' ⟨he, hb⟩ => ⟨he, ⟨_, _, hp.below hb⟩, .of_below hb⟩
theorem send_nil (w : World) (hL : Laid w) (now spi n : Int) : Calls Tryd.prog 14 #[.pointer none, .int .i64 now, .int .i64 spi, .int .i64 n] w fun e w' => e = .returned (.tuple #[v25 z25, .int .u64 0, .int .i64 3]) ∧ Below w.heap.size w w' :=
  send_nil0 hL now spi n fun W hb => live_no now spi true (find_nil W spi true)
end Go.Proofs.YtkmnpnbfeiobiaaDoor.Sd
