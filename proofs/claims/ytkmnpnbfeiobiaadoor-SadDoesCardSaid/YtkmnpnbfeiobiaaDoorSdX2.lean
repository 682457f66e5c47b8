/- Look and Send of the program. Send of the program. Add of the program. slices.DeleteFunc with Remove's closure; Remove of the program. A call in a row of calls; few; the program's state beside a law; the document's example. (Texts of this session, put together by wip/tools/merge.py.) -/
import Derived.Test.YtkmnpnbfeiobiaaDoorSdX1
import Derived.Lib.SliceRun
namespace Go.Proofs.YtkmnpnbfeiobiaaDoor.Sd
open Go.RowKit Go.Proofs.YtkmnpnbfeiobiaaDoorW.PrintWords Go.Proofs.YtkmnpnbfeiobiaaDoorW.PrintLast Go.Proofs.YtkmnpnbfeiobiaaDoorW.PrintMore Go.Proofs.YtkmnpnbfeiobiaaDoor.QSa
open Go.Proofs.YtkmnpnbfeiobiaaDoor
set_option linter.unusedVariables false
set_option linter.unusedSimpArgs false
theorem results_c3 {P : Program} {fn : Func} {p t u : Tmp} {ty : TypeId} (h : fn.results = #[.cell p ty, .tmp t, .tmp u]) (tmps : Array Value) (w : World) (g : Nat) (t' : TypeId) (cs : Array Value) (fr : Nat × Nat) (d : TypeDesc)
    (hp : tmps.getD p undef = .pointer (some ⟨g, 0, none⟩)) (hg : w.heap[g]? = some (.cells cs t' fr))
    (hu : P.underlying ty = some d) (hd : (match d with | .struct _ | .array _ _ => true | _ => false) = true) (hi : (P.info? ty).map (·.size) = some cs.size) :
    (results fn tmps).run P w = .ok (.tuple #[.agg cs, tmps.getD t undef, tmps.getD u undef]) w := by
  have hp' : tmps[p]?.getD undef = .pointer (some ⟨g, 0, none⟩) := by simpa using hp
  simp [results, h, hp', asAddr, run_loadVar_row w g t' ty cs fr d hg hu hd hi]
def v27 (x : S27) : Value := .agg (enc27 x).toArray
def v25 (x : S25) : Value := .agg (enc25 x).toArray
set_option maxHeartbeats 1600000 in
set_option maxRecDepth 100000 in
theorem look_no {w : World} {p : Option Addr} {c : Int} (hL : Laid w) (now spi low : Int) (hv : ∀ W, Below w.heap.size w W → Calls Tryd.prog 27 #[.pointer p, .int .i64 now, .int .i64 spi, .bool false] W (FindNo c W)) :
    Calls Tryd.prog 18 #[.pointer p, .int .i64 now, .int .i64 spi, .int .i64 low] w fun e w' => e = .returned (.tuple #[v27 z27, .int .u64 0, .int .i64 c]) ∧ Below w.heap.size w w' := by
  have HV := Aside0.mk hv
  have HL := Aside0.mk fun (W : World) (hb : Below w.heap.size w W) => hL.below hL.pos hb
  clear hv hL
  go_enter Tryd.func18, Tryd.ntmps18
  go_wp2_with (first | ((with_reducible refine gate_dst (N := 8) rfl ?_); refine box_event ?hg (N := 8) ?hd (cs := #[.int .i64 0, .string ByteArray.empty, .string ByteArray.empty, .string ByteArray.empty, .bool false, .int .i64 0, .int .i64 0, .bool false, .int .i64 0, .int .i64 0, .int .i64 0, .int .i64 0]) (t := 27) ?hr ?_; (case hd => rfl); (case hg => rfl); (case hr => first | (go_simp; done) | (go_simp; rfl)); intro q8 hq w1 hbox hb; have BKq8 := Aside0.mk hbox; have HQq8 := Aside0.mk (show w.heap.size ≤ q8 from by rw [hq]; exact Nat.le_refl _); have HB1 := Aside0.mk hb; clear hbox hb hq))
  refine (HV.out w1 HB1.out).mono ?_
  rintro e w2 ⟨⟨v, rfl, hv⟩, hb⟩
  have HB2 := Aside0.mk (HB1.out.trans (hb.mono HB1.out.size))
  have BKq8 := Aside0.mk (blk_below BKq8.out hb)
  have NW := Aside0.mk (number_walk (HL.out w2 HB2.out) hv)
  obtain ⟨k, s, rfl, _⟩ := hv
  clear hb
  go_wp2_with (fail)
  refine NW.out.mono ?_
  rintro e w3 ⟨rfl, hb⟩
  have HB3 := Aside0.mk (HB2.out.trans (hb.mono HB2.out.size))
  have BKq8 := Aside0.mk (blk_below BKq8.out hb)
  clear hb
  go_wp2_with (first | ((with_reducible refine gate_store (t := 27) (p := 8) rfl ?_); refine store_rowE ?hg 27 (.tmp 8) (.tmp 24) ?ho ?hN q8 (#[.int .i64 0, .string ByteArray.empty, .string ByteArray.empty, .string ByteArray.empty, .bool false, .int .i64 0, .int .i64 0, .bool false, .int .i64 0, .int .i64 0, .int .i64 0, .int .i64 0]) ?hx ?hy 27 _ BKq8.out ?hi ?hold ?h1 ?_; (case hg => rfl); (case ho => rfl); (case hN => rfl); (case hx => rfl); (case hy => rfl); (case hi => exact isz27); (case hold => rfl); (case h1 => first | rfl | exact one27 _ | simp [Value.oneCell']); intro w4 hw; have HB4 := Aside0.mk (show Below w.heap.size w w4 from by rw [hw]; exact below_setRow HB3.out HQq8.out _); have BKq8 := Aside0.mk (show w4.heap[q8]? = some (.cells (#[.int .i64 0, .string ByteArray.empty, .string ByteArray.empty, .string ByteArray.empty, .bool false, .int .i64 0, .int .i64 0, .bool false, .int .i64 0, .int .i64 0, .int .i64 0, .int .i64 0]) 27 (0, 0)) from by rw [hw]; exact setRow_heap _ _ _ _ _ _ BKq8.out); clear hw))
  (try simp only [Exit.inBlock, Exit.then])
  refine bodyPost_ret (results_c3 Tryd.results18 _ _ q8 27 _ (0, 0) _ rfl BKq8.out Tryd.underlying27 rfl isz27) rfl ?_
  exact ⟨rfl, HB4.out⟩
/-- The number that a lower half tells is a natural one. -/
theorem inferE_nat (wide : Bool) (T L low : Int) (hT : 0 ≤ T) : ∃ m : Nat, (Win.inferE wide T L low).1 = (m : Int) := by
  unfold Win.inferE
  split
  · exact ⟨0, rfl⟩
  · split
    · exact ⟨low.toNat, by show low = _; omega⟩
    · split
      · exact ⟨0, rfl⟩
      · exact ⟨(Win.inferH T L low * 4294967296 + low).toNat, by show Win.inferH T L low * 4294967296 + low = _; omega⟩
def lookW (e : En) (low : Int) : Int × Int := Win.inferE e.life.f0.f4 e.st.1 e.st.2.length low
def lookF (es : List En) (now spi low : Int) : S27 × Int × Int :=
  if findI es spi false < es.length then (if ageE (es.getD (findI es spi false) en0) now = 2 then (z27, 0, 171) else if (lookW (es.getD (findI es spi false) en0) low).2 = 0 then (if Win.chk (es.getD (findI es spi false) en0).life.f0.f4 (es.getD (findI es spi false) en0).st (lookW (es.getD (findI es spi false) en0) low).1.toNat = 0 then ((es.getD (findI es spi false) en0).life, (lookW (es.getD (findI es spi false) en0) low).1, 0) else (z27, 0, Win.chk (es.getD (findI es spi false) en0).life.f0.f4 (es.getD (findI es spi false) en0).st (lookW (es.getD (findI es spi false) en0) low).1.toNat)) else (z27, 0, (lookW (es.getD (findI es spi false) en0) low).2)) else (z27, 0, 6)
set_option maxHeartbeats 3200000 in
set_option maxRecDepth 100000 in
theorem look_yes {w : World} {base q k : Nat} {v : Value} {ps : List Pl} {es : List En} (hp : SadP w base q v ps es) (hl : es.length ≤ 1000) (now spi low : Int) (hf : findI es spi false < es.length) (hg : Good k (es.getD (findI es spi false) en0)) (ht : Timed (es.getD (findI es spi false) en0) now)
    (ha : ageE (es.getD (findI es spi false) en0) now ≠ 2) :
    Calls Tryd.prog 18 #[.pointer (some ⟨q, 0, none⟩), .int .i64 now, .int .i64 spi, .int .i64 low] w fun e w' => e = .returned (.tuple #[v27 (lookF es now spi low).1, .int .u64 (lookF es now spi low).2.1, .int .i64 (lookF es now spi low).2.2]) ∧ Below w.heap.size w w' := by
  have LV := Aside0.mk fun (W : World) (hb : Below w.heap.size w W) => live_yes now spi false (find_yes (hp.below hb) hl spi false hf) ((hp.below hb).at _ hf).blk ht ha
  unfold lookF
  rw [if_pos hf, if_neg ha]
  obtain ⟨i, hi⟩ : ∃ i, findI es spi false = i := ⟨_, rfl⟩
  rw [hi] at hf hg ht ha LV ⊢
  have HP := hp.at i hf
  obtain ⟨e, he⟩ : ∃ e, es.getD i en0 = e := ⟨_, rfl⟩
  obtain ⟨pl, hpl⟩ : ∃ p, ps.getD i pl0 = p := ⟨_, rfl⟩
  rw [he] at hg ⊢
  rw [hpl] at LV
  rw [he, hpl] at HP
  obtain ⟨h1, ⟨a, hu, hwa⟩, _, _, _⟩ := HP
  have hlen := hg.len
  have IW := Aside0.mk fun (W : World) (hb : Below w.heap.size w W) => Win.infer_walk (w := W) ⟨blk_below hwa.hs hb, blk_below hwa.ha hb, hwa.ne⟩ low hlen.2 hg.top
  have CW := Aside0.mk fun (W : World) (n : Nat) (hb : Below w.heap.size w W) => Win.check_walk (w := W) ⟨blk_below hwa.hs hb, blk_below hwa.ha hb, hwa.ne⟩ hlen.2 hlen.1 n hg.top
  have LD0 := Aside0.mk fun (W : World) (hb : Below w.heap.size w W) => load27 (blk_below h1 hb)
  have CG := Aside0.mk fun (W : World) (hb : Below w.heap.size w W) => (blk_cell (blk_below h1 hb) 15).trans (rfl : (encE e pl.g).toArray[15]? = some (.pointer (some ⟨pl.g, 0, none⟩)))
  obtain ⟨m, hm⟩ := inferE_nat e.life.f0.f4 e.st.1 e.st.2.length low (by omega)
  obtain ⟨f, hff⟩ : ∃ f, (lookW e low).2 = f := ⟨_, rfl⟩
  have hm2 : (lookW e low).1 = (m : Int) := hm
  rw [hff, hm2, Int.toNat_natCast]
  have IWE := Aside0.mk fun (W : World) (hb : Below w.heap.size w W) => (show Calls Tryd.prog 32 #[.pointer (some ⟨pl.g, 0, none⟩), .int .i64 low] W fun e' w' => e' = .returned (.tuple #[.int .u64 (m : Int), .int .i64 f]) ∧ ∃ m, w' = W.drewN m from by
    have := IW.out W hb
    rw [show Win.inferE e.life.f0.f4 e.st.1 e.st.2.length low = ((m : Int), f) from Prod.ext hm hff] at this
    exact this)
  obtain ⟨c, hc⟩ : ∃ c, Win.chk e.life.f0.f4 e.st m = c := ⟨_, rfl⟩
  have CWE := Aside0.mk fun (W : World) (hb : Below w.heap.size w W) => (show Calls Tryd.prog 33 #[.pointer (some ⟨pl.g, 0, none⟩), .int .u64 (m : Int)] W fun e' w' => e' = .returned (.int .i64 c) ∧ ∃ m, w' = W.drewN m from by
    have := CW.out W m hb
    rw [show Win.checkE e.life.f0.f4 e.st.1 m e.st.2 = c from hc] at this
    exact this)
  rw [hc]
  obtain ⟨x, hx⟩ : ∃ x, e.life = x := ⟨_, rfl⟩
  rw [hx] at LD0 ⊢
  obtain ⟨P, hP⟩ : ∃ P, pl.p = P := ⟨_, rfl⟩
  obtain ⟨G, hG⟩ : ∃ G, pl.g = G := ⟨_, rfl⟩
  rw [hP] at LV LD0 CG
  rw [hG] at CG IWE CWE
  clear hp hf hg ht ha h1 hu hwa hlen IW CW hm hff hm2 hc hx hP hG hi he hpl
  by_cases hf0 : f = 0
  · subst hf0
    rw [if_pos rfl]
    by_cases hc0 : c = 0
    · subst hc0
      rw [if_pos rfl]
      go_enter Tryd.func18, Tryd.ntmps18
      go_wp2_with (first | ((with_reducible refine gate_dst (N := 8) rfl ?_); refine box_event ?hg (N := 8) ?hd (cs := #[.int .i64 0, .string ByteArray.empty, .string ByteArray.empty, .string ByteArray.empty, .bool false, .int .i64 0, .int .i64 0, .bool false, .int .i64 0, .int .i64 0, .int .i64 0, .int .i64 0]) (t := 27) ?hr ?_; (case hd => rfl); (case hg => rfl); (case hr => first | (go_simp; done) | (go_simp; rfl)); intro q8 hq w1 hbox hb; have BKq8 := Aside0.mk hbox; have HQq8 := Aside0.mk (show w.heap.size ≤ q8 from by rw [hq]; exact Nat.le_refl _); have HB1 := Aside0.mk hb; clear hbox hb hq))
      refine (LV.out w1 HB1.out).mono ?_
      rintro e w2 ⟨rfl, hb⟩
      have HB2 := Aside0.mk (HB1.out.trans (hb.mono HB1.out.size))
      have BKq8 := Aside0.mk (blk_below BKq8.out hb)
      have c15 : w2.cell? ⟨P, 15, none⟩ = some (.pointer (some ⟨G, 0, none⟩)) := CG.out w2 HB2.out
      clear hb
      go_wp2_with (fail)
      refine (IWE.out w2 HB2.out).mono ?_
      rintro e w3 ⟨rfl, m3, rfl⟩
      have HB3 := Aside0.mk (pw_below_drewN HB2.out m3)
      have BKq8 := Aside0.mk (blk_drewN BKq8.out m3)
      clear c15
      have c15 : (w2.drewN m3).cell? ⟨P, 15, none⟩ = some (.pointer (some ⟨G, 0, none⟩)) := CG.out _ HB3.out
      obtain ⟨w3, hw3⟩ : ∃ W, w2.drewN m3 = W := ⟨_, rfl⟩
      rw [hw3] at HB3 BKq8 c15 ⊢
      clear hw3
      go_wp2_with (fail)
      refine (CWE.out w3 HB3.out).mono ?_
      rintro e w4 ⟨rfl, m4, rfl⟩
      have HB4 := Aside0.mk (pw_below_drewN HB3.out m4)
      have BKq8 := Aside0.mk (blk_drewN BKq8.out m4)
      have LD := Aside0.mk (show (loadVar 27 ⟨P, 0, none⟩).run Tryd.prog (w3.drewN m4) = .ok (.agg #[.int .i64 x.f0.f0, .string x.f0.f1, .string x.f0.f2, .string x.f0.f3, .bool x.f0.f4, .int .i64 x.f0.f5, .int .i64 x.f1, .bool x.f2, .int .i64 x.f3, .int .i64 x.f4, .int .i64 x.f5, .int .i64 x.f6]) (w3.drewN m4) from LD0.out _ HB4.out)
      obtain ⟨w4, hw4⟩ : ∃ W, w3.drewN m4 = W := ⟨_, rfl⟩
      rw [hw4] at HB4 BKq8 LD ⊢
      clear hw4
      go_wp2_with (first | ((with_reducible refine gate_dst (N := 51) rfl ?_); refine Kd.event_run (v := .agg #[.int .i64 x.f0.f0, .string x.f0.f1, .string x.f0.f2, .string x.f0.f3, .bool x.f0.f4, .int .i64 x.f0.f5, .int .i64 x.f1, .bool x.f2, .int .i64 x.f3, .int .i64 x.f4, .int .i64 x.f5, .int .i64 x.f6]) (w1 := w4) ?hg (load_runA 27 (.tmp 50) ⟨P, 0, none⟩ #[.int .i64 x.f0.f0, .string x.f0.f1, .string x.f0.f2, .string x.f0.f3, .bool x.f0.f4, .int .i64 x.f0.f5, .int .i64 x.f1, .bool x.f2, .int .i64 x.f3, .int .i64 x.f4, .int .i64 x.f5, .int .i64 x.f6] ?ho ?hx LD.out) ?_; (case hg => rfl); (case ho => rfl); (case hx => rfl)) | ((with_reducible refine gate_store (t := 27) (p := 8) rfl ?_); refine store_rowE ?hg 27 (.tmp 8) (.tmp 51) ?ho ?hN q8 (#[.int .i64 x.f0.f0, .string x.f0.f1, .string x.f0.f2, .string x.f0.f3, .bool x.f0.f4, .int .i64 x.f0.f5, .int .i64 x.f1, .bool x.f2, .int .i64 x.f3, .int .i64 x.f4, .int .i64 x.f5, .int .i64 x.f6]) ?hx ?hy 27 _ BKq8.out ?hi ?hold ?h1 ?_; (case hg => rfl); (case ho => rfl); (case hN => rfl); (case hx => rfl); (case hy => rfl); (case hi => exact isz27); (case hold => rfl); (case h1 => first | rfl | exact one27 _ | simp [Value.oneCell']); intro w5 hw; have HB5 := Aside0.mk (show Below w.heap.size w w5 from by rw [hw]; exact below_setRow HB4.out HQq8.out _); have BKq8 := Aside0.mk (show w5.heap[q8]? = some (.cells (#[.int .i64 x.f0.f0, .string x.f0.f1, .string x.f0.f2, .string x.f0.f3, .bool x.f0.f4, .int .i64 x.f0.f5, .int .i64 x.f1, .bool x.f2, .int .i64 x.f3, .int .i64 x.f4, .int .i64 x.f5, .int .i64 x.f6]) 27 (0, 0)) from by rw [hw]; exact setRow_heap _ _ _ _ _ _ BKq8.out); clear hw))
      (try simp only [Exit.inBlock, Exit.then])
      refine bodyPost_ret (results_c3 Tryd.results18 _ _ q8 27 _ (0, 0) _ rfl BKq8.out Tryd.underlying27 rfl isz27) rfl ?_
      exact ⟨rfl, HB5.out⟩
    · rw [if_neg hc0]
      have hcb : (c == 0) = false := by rw [beq_eq_false_iff_ne]; exact hc0
      have hcb2 : (c != 0) = true := by rw [bne_iff_ne]; exact hc0
      clear hc0
      go_enter Tryd.func18, Tryd.ntmps18
      go_wp2_with (first | ((with_reducible refine gate_dst (N := 8) rfl ?_); refine box_event ?hg (N := 8) ?hd (cs := #[.int .i64 0, .string ByteArray.empty, .string ByteArray.empty, .string ByteArray.empty, .bool false, .int .i64 0, .int .i64 0, .bool false, .int .i64 0, .int .i64 0, .int .i64 0, .int .i64 0]) (t := 27) ?hr ?_; (case hd => rfl); (case hg => rfl); (case hr => first | (go_simp; done) | (go_simp; rfl)); intro q8 hq w1 hbox hb; have BKq8 := Aside0.mk hbox; have HQq8 := Aside0.mk (show w.heap.size ≤ q8 from by rw [hq]; exact Nat.le_refl _); have HB1 := Aside0.mk hb; clear hbox hb hq))
      refine (LV.out w1 HB1.out).mono ?_
      rintro e w2 ⟨rfl, hb⟩
      have HB2 := Aside0.mk (HB1.out.trans (hb.mono HB1.out.size))
      have BKq8 := Aside0.mk (blk_below BKq8.out hb)
      have c15 : w2.cell? ⟨P, 15, none⟩ = some (.pointer (some ⟨G, 0, none⟩)) := CG.out w2 HB2.out
      clear hb
      go_wp2_with (fail)
      refine (IWE.out w2 HB2.out).mono ?_
      rintro e w3 ⟨rfl, m3, rfl⟩
      have HB3 := Aside0.mk (pw_below_drewN HB2.out m3)
      have BKq8 := Aside0.mk (blk_drewN BKq8.out m3)
      clear c15
      have c15 : (w2.drewN m3).cell? ⟨P, 15, none⟩ = some (.pointer (some ⟨G, 0, none⟩)) := CG.out _ HB3.out
      obtain ⟨w3, hw3⟩ : ∃ W, w2.drewN m3 = W := ⟨_, rfl⟩
      rw [hw3] at HB3 BKq8 c15 ⊢
      clear hw3
      go_wp2_with (fail)
      refine (CWE.out w3 HB3.out).mono ?_
      rintro e w4 ⟨rfl, m4, rfl⟩
      have HB4 := Aside0.mk (pw_below_drewN HB3.out m4)
      have BKq8 := Aside0.mk (blk_drewN BKq8.out m4)
      obtain ⟨w4, hw4⟩ : ∃ W, w3.drewN m4 = W := ⟨_, rfl⟩
      rw [hw4] at HB4 BKq8 ⊢
      clear hw4
      go_wp2_with (first | ((with_reducible refine gate_store (t := 27) (p := 8) rfl ?_); refine store_rowE ?hg 27 (.tmp 8) (.tmp 46) ?ho ?hN q8 (#[.int .i64 0, .string ByteArray.empty, .string ByteArray.empty, .string ByteArray.empty, .bool false, .int .i64 0, .int .i64 0, .bool false, .int .i64 0, .int .i64 0, .int .i64 0, .int .i64 0]) ?hx ?hy 27 _ BKq8.out ?hi ?hold ?h1 ?_; (case hg => rfl); (case ho => rfl); (case hN => rfl); (case hx => rfl); (case hy => rfl); (case hi => exact isz27); (case hold => rfl); (case h1 => first | rfl | exact one27 _ | simp [Value.oneCell']); intro w5 hw; have HB5 := Aside0.mk (show Below w.heap.size w w5 from by rw [hw]; exact below_setRow HB4.out HQq8.out _); have BKq8 := Aside0.mk (show w5.heap[q8]? = some (.cells (#[.int .i64 0, .string ByteArray.empty, .string ByteArray.empty, .string ByteArray.empty, .bool false, .int .i64 0, .int .i64 0, .bool false, .int .i64 0, .int .i64 0, .int .i64 0, .int .i64 0]) 27 (0, 0)) from by rw [hw]; exact setRow_heap _ _ _ _ _ _ BKq8.out); clear hw))
      (try simp only [Exit.inBlock, Exit.then])
      refine bodyPost_ret (results_c3 Tryd.results18 _ _ q8 27 _ (0, 0) _ rfl BKq8.out Tryd.underlying27 rfl isz27) rfl ?_
      exact ⟨rfl, HB5.out⟩
  · rw [if_neg hf0]
    have hcb : (f == 0) = false := by rw [beq_eq_false_iff_ne]; exact hf0
    have hcb2 : (f != 0) = true := by rw [bne_iff_ne]; exact hf0
    clear hf0
    go_enter Tryd.func18, Tryd.ntmps18
    go_wp2_with (first | ((with_reducible refine gate_dst (N := 8) rfl ?_); refine box_event ?hg (N := 8) ?hd (cs := #[.int .i64 0, .string ByteArray.empty, .string ByteArray.empty, .string ByteArray.empty, .bool false, .int .i64 0, .int .i64 0, .bool false, .int .i64 0, .int .i64 0, .int .i64 0, .int .i64 0]) (t := 27) ?hr ?_; (case hd => rfl); (case hg => rfl); (case hr => first | (go_simp; done) | (go_simp; rfl)); intro q8 hq w1 hbox hb; have BKq8 := Aside0.mk hbox; have HQq8 := Aside0.mk (show w.heap.size ≤ q8 from by rw [hq]; exact Nat.le_refl _); have HB1 := Aside0.mk hb; clear hbox hb hq))
    refine (LV.out w1 HB1.out).mono ?_
    rintro e w2 ⟨rfl, hb⟩
    have HB2 := Aside0.mk (HB1.out.trans (hb.mono HB1.out.size))
    have BKq8 := Aside0.mk (blk_below BKq8.out hb)
    have c15 : w2.cell? ⟨P, 15, none⟩ = some (.pointer (some ⟨G, 0, none⟩)) := CG.out w2 HB2.out
    clear hb
    go_wp2_with (fail)
    refine (IWE.out w2 HB2.out).mono ?_
    rintro e w3 ⟨rfl, m3, rfl⟩
    have HB3 := Aside0.mk (pw_below_drewN HB2.out m3)
    have BKq8 := Aside0.mk (blk_drewN BKq8.out m3)
    clear c15
    have c15 : (w2.drewN m3).cell? ⟨P, 15, none⟩ = some (.pointer (some ⟨G, 0, none⟩)) := CG.out _ HB3.out
    obtain ⟨w3, hw3⟩ : ∃ W, w2.drewN m3 = W := ⟨_, rfl⟩
    rw [hw3] at HB3 BKq8 c15 ⊢
    clear hw3
    go_wp2_with (first | ((with_reducible refine gate_store (t := 27) (p := 8) rfl ?_); refine store_rowE ?hg 27 (.tmp 8) (.tmp 46) ?ho ?hN q8 (#[.int .i64 0, .string ByteArray.empty, .string ByteArray.empty, .string ByteArray.empty, .bool false, .int .i64 0, .int .i64 0, .bool false, .int .i64 0, .int .i64 0, .int .i64 0, .int .i64 0]) ?hx ?hy 27 _ BKq8.out ?hi ?hold ?h1 ?_; (case hg => rfl); (case ho => rfl); (case hN => rfl); (case hx => rfl); (case hy => rfl); (case hi => exact isz27); (case hold => rfl); (case h1 => first | rfl | exact one27 _ | simp [Value.oneCell']); intro w4 hw; have HB4 := Aside0.mk (show Below w.heap.size w w4 from by rw [hw]; exact below_setRow HB3.out HQq8.out _); have BKq8 := Aside0.mk (show w4.heap[q8]? = some (.cells (#[.int .i64 0, .string ByteArray.empty, .string ByteArray.empty, .string ByteArray.empty, .bool false, .int .i64 0, .int .i64 0, .bool false, .int .i64 0, .int .i64 0, .int .i64 0, .int .i64 0]) 27 (0, 0)) from by rw [hw]; exact setRow_heap _ _ _ _ _ _ BKq8.out); clear hw))
    (try simp only [Exit.inBlock, Exit.then])
    refine bodyPost_ret (results_c3 Tryd.results18 _ _ q8 27 _ (0, 0) _ rfl BKq8.out Tryd.underlying27 rfl isz27) rfl ?_
    exact ⟨rfl, HB4.out⟩
theorem look_call {w : World} {base q k : Nat} {es : List En} (h : SadX w base q es) (hL : Laid w) (hl : es.length ≤ 1000) (now spi low : Int) (hg : ∀ e ∈ es, Good k e) (h0 : -1000000000 ≤ now) (h1 : now ≤ 4000000000) :
    Calls Tryd.prog 18 #[.pointer (some ⟨q, 0, none⟩), .int .i64 now, .int .i64 spi, .int .i64 low] w (PgQ base q es (.tuple #[v27 (lookF es now spi low).1, .int .u64 (lookF es now spi low).2.1, .int .i64 (lookF es now spi low).2.2]) w) := by
  obtain ⟨v, ps, hp⟩ := h
  have ht : ∀ e ∈ es, Timed e now := fun e he => (hg e he).timed h0 h1
  by_cases hf : findI es spi false < es.length
  · by_cases ha : ageE (es.getD (findI es spi false) en0) now = 2
    · unfold lookF
      rw [if_pos hf, if_pos ha]
      exact (look_no hL now spi low fun W hb => live_hard now spi false (find_yes (hp.below hb) hl spi false hf) ((hp.below hb).at _ hf).blk (ht _ (getD_mem hf)) ha).mono fun e w' ⟨he, hb⟩ => ⟨he, ⟨_, _, hp.below hb⟩, .of_below hb⟩
    · exact (look_yes hp hl now spi low hf (hg _ (getD_mem hf)) (ht _ (getD_mem hf)) ha).mono fun e w' ⟨he, hb⟩ => ⟨he, ⟨_, _, hp.below hb⟩, .of_below hb⟩
  · unfold lookF
    rw [if_neg hf]
    exact (look_no hL now spi low fun W hb => live_no now spi false (find_no (hp.below hb) hl spi false hf)).mono fun e w' ⟨he, hb⟩ => ⟨he, ⟨_, _, hp.below hb⟩, .of_below hb⟩
theorem look_nil (w : World) (hL : Laid w) (now spi low : Int) : Calls Tryd.prog 18 #[.pointer none, .int .i64 now, .int .i64 spi, .int .i64 low] w fun e w' => e = .returned (.tuple #[v27 z27, .int .u64 0, .int .i64 3]) ∧ Below w.heap.size w w' :=
  look_no hL now spi low fun W hb => live_no now spi false (find_nil W spi false)
end Go.Proofs.YtkmnpnbfeiobiaaDoor.Sd
namespace Go.Proofs.YtkmnpnbfeiobiaaDoor.Sd
open Go.RowKit Go.Proofs.YtkmnpnbfeiobiaaDoorW.PrintWords Go.Proofs.YtkmnpnbfeiobiaaDoorW.PrintLast Go.Proofs.YtkmnpnbfeiobiaaDoorW.PrintMore Go.Proofs.YtkmnpnbfeiobiaaDoor.QSa
open Go.Proofs.YtkmnpnbfeiobiaaDoor
set_option linter.unusedVariables false
set_option linter.unusedSimpArgs false
theorem Turn.setRow {T : Ty} {base : Nat} {w w' : World} (h : Turn T base w w') {g : Nat} (hg : w.heap.size ≤ g) (cs : Array Value) : Turn T base w (w'.setRow g cs) :=
  ⟨h.os, h.tape, h.output, by rw [setRow_size]; exact h.size, fun k hk hc => (setRow_other _ _ _ _ (by omega)).trans (h.block k hk hc)⟩
theorem Turn.drew {T : Ty} {base : Nat} {w w' : World} (h : Turn T base w w') : Turn T base w w'.drew := ⟨h.os, h.tape, h.output, h.size, h.block⟩
theorem SadP.setRow {w : World} {base q g : Nat} {v : Value} {ps : List Pl} {es : List En} {old : Array Value} {t : TypeId} (h : SadP w base q v ps es) (hg : w.heap[g]? = some (.cells old t (0, 0))) (ht : ¬ TP.has t) (cs : Array Value) : SadP (w.setRow g cs) base q v ps es :=
  Tab.move h WnPg_ok fun k cs' t' _ hc hh => setRow_other _ _ _ _ (fun e => by
    subst e
    rw [hg] at hc
    injection hc with hc
    injection hc with _ e _
    subst e
    exact ht hh)
theorem SadP.drew {w : World} {base q : Nat} {v : Value} {ps : List Pl} {es : List En} (h : SadP w base q v ps es) : SadP w.drew base q v ps es := h.below (below_drew (Below.refl _ _))
def sendE (e : En) (n : Int) : En := { e with sent := e.sent + 1, bytes := e.bytes + n }
/-- Have the numbers of an association come to their end? -/
def fullB (e : En) : Bool := ((e.sent : Int) == 18446744073709551615) || (!e.life.f0.f4 && ((e.sent : Int) == 4294967295))
theorem Good.send {k : Nat} {e : En} (h : Good k e) {n : Int} (h0 : 0 ≤ n) (h1 : n ≤ 1000000000) (hc : fullB e = false) : Good (k + 1) (sendE e n) := by
  have hs := h.sent
  have hne : e.sent ≠ 18446744073709551615 := by
    unfold fullB at hc
    simp only [Bool.or_eq_false_iff, beq_eq_false_iff_ne] at hc
    omega
  refine ⟨h.lo, h.hi, h.inv, h.top, ?_, h.born, ?_, h.spi, Nat.le_succ_of_le h.ns⟩
  · show e.sent + 1 < 18446744073709551616
    omega
  · have := h.bytes
    show 0 ≤ e.bytes + n ∧ e.bytes + n ≤ 1000000000 * ((k + 1 : Nat) : Int)
    omega
def sendF (es : List En) (now spi n : Int) : List En × S25 × Int × Int :=
  if n < 0 then (es, z25, 0, 1) else if findI es spi true < es.length then (if ageE (es.getD (findI es spi true) en0) now = 2 then (es, z25, 0, 171) else if fullB (es.getD (findI es spi true) en0) = true then (es, z25, 0, 121) else (es.set (findI es spi true) (sendE (es.getD (findI es spi true) en0) n), (es.getD (findI es spi true) en0).life.f0, ((es.getD (findI es spi true) en0).sent : Int) + 1, 0)) else (es, z25, 0, 6)
set_option maxHeartbeats 1600000 in
set_option maxRecDepth 100000 in
theorem send_neg {w : World} {q : Nat} (now spi n : Int) (hn : n < 0) (hv : ∀ W, Below w.heap.size w W → Calls Tryd.prog 27 #[.pointer (some ⟨q, 0, none⟩), .int .i64 now, .int .i64 spi, .bool true] W (LiveAny W)) :
    Calls Tryd.prog 14 #[.pointer (some ⟨q, 0, none⟩), .int .i64 now, .int .i64 spi, .int .i64 n] w fun e w' => e = .returned (.tuple #[v25 z25, .int .u64 0, .int .i64 1]) ∧ Below w.heap.size w w' := by
  have HV := Aside0.mk hv
  have hn1 : decide (n < 0) = true := decide_eq_true hn
  clear hv hn
  go_enter Tryd.func14, Tryd.ntmps14
  go_wp2_with (first | ((with_reducible refine gate_dst (N := 8) rfl ?_); refine box_event ?hg (N := 8) ?hd (cs := #[.int .i64 0, .string ByteArray.empty, .string ByteArray.empty, .string ByteArray.empty, .bool false, .int .i64 0]) (t := 25) ?hr ?_; (case hd => rfl); (case hg => rfl); (case hr => first | (go_simp; done) | (go_simp; rfl)); intro q8 hq w1 hbox hb; have BKq8 := Aside0.mk hbox; have HQq8 := Aside0.mk (show w.heap.size ≤ q8 from by rw [hq]; exact Nat.le_refl _); have HB1 := Aside0.mk hb; clear hbox hb hq))
  refine (HV.out w1 HB1.out).mono ?_
  rintro e w2 ⟨⟨u, v, rfl⟩, hb⟩
  have HB2 := Aside0.mk (HB1.out.trans (hb.mono HB1.out.size))
  have BKq8 := Aside0.mk (blk_below BKq8.out hb)
  clear hb
  go_wp2_with (first | ((with_reducible refine gate_store (t := 25) (p := 8) rfl ?_); refine store_rowE ?hg 25 (.tmp 8) (.tmp 27) ?ho ?hN q8 (#[.int .i64 0, .string ByteArray.empty, .string ByteArray.empty, .string ByteArray.empty, .bool false, .int .i64 0]) ?hx ?hy 25 _ BKq8.out ?hi ?hold ?h1 ?_; (case hg => rfl); (case ho => rfl); (case hN => rfl); (case hx => rfl); (case hy => rfl); (case hi => exact isz25); (case hold => rfl); (case h1 => first | rfl | exact one25 _ | simp [Value.oneCell']); intro w3 hw; have HB3 := Aside0.mk (show Below w.heap.size w w3 from by rw [hw]; exact below_setRow HB2.out HQq8.out _); have BKq8 := Aside0.mk (show w3.heap[q8]? = some (.cells (#[.int .i64 0, .string ByteArray.empty, .string ByteArray.empty, .string ByteArray.empty, .bool false, .int .i64 0]) 25 (0, 0)) from by rw [hw]; exact setRow_heap _ _ _ _ _ _ BKq8.out); clear hw))
  (try simp only [Exit.inBlock, Exit.then])
  refine bodyPost_ret (results_c3 Tryd.results14 _ _ q8 25 _ (0, 0) _ rfl BKq8.out Tryd.underlying25 rfl isz25) rfl ?_
  exact ⟨rfl, HB3.out⟩
set_option maxHeartbeats 1600000 in
set_option maxRecDepth 100000 in
theorem send_no {w : World} {q : Nat} {c : Int} (hL : Laid w) (now spi n : Int) (hn : 0 ≤ n) (hv : ∀ W, Below w.heap.size w W → Calls Tryd.prog 27 #[.pointer (some ⟨q, 0, none⟩), .int .i64 now, .int .i64 spi, .bool true] W (FindNo c W)) :
    Calls Tryd.prog 14 #[.pointer (some ⟨q, 0, none⟩), .int .i64 now, .int .i64 spi, .int .i64 n] w fun e w' => e = .returned (.tuple #[v25 z25, .int .u64 0, .int .i64 c]) ∧ Below w.heap.size w w' := by
  have HV := Aside0.mk hv
  have HL := Aside0.mk fun (W : World) (hb : Below w.heap.size w W) => hL.below hL.pos hb
  have hn1 : decide (n < 0) = false := decide_eq_false (by omega)
  clear hn
  clear hv hL
  go_enter Tryd.func14, Tryd.ntmps14
  go_wp2_with (first | ((with_reducible refine gate_dst (N := 8) rfl ?_); refine box_event ?hg (N := 8) ?hd (cs := #[.int .i64 0, .string ByteArray.empty, .string ByteArray.empty, .string ByteArray.empty, .bool false, .int .i64 0]) (t := 25) ?hr ?_; (case hd => rfl); (case hg => rfl); (case hr => first | (go_simp; done) | (go_simp; rfl)); intro q8 hq w1 hbox hb; have BKq8 := Aside0.mk hbox; have HQq8 := Aside0.mk (show w.heap.size ≤ q8 from by rw [hq]; exact Nat.le_refl _); have HB1 := Aside0.mk hb; clear hbox hb hq))
  refine (HV.out w1 HB1.out).mono ?_
  rintro e w2 ⟨⟨v, rfl, hv⟩, hb⟩
  have HB2 := Aside0.mk (HB1.out.trans (hb.mono HB1.out.size))
  have BKq8 := Aside0.mk (blk_below BKq8.out hb)
  have NW := Aside0.mk (number_walk (HL.out w2 HB2.out) hv)
  obtain ⟨k, s, rfl, _⟩ := hv
  clear hb
  go_wp2_with (fail)
  refine NW.out.mono ?_
  rintro e w3 ⟨rfl, hb⟩
  have HB3 := Aside0.mk (HB2.out.trans (hb.mono HB2.out.size))
  have BKq8 := Aside0.mk (blk_below BKq8.out hb)
  clear hb
  go_wp2_with (first | ((with_reducible refine gate_store (t := 25) (p := 8) rfl ?_); refine store_rowE ?hg 25 (.tmp 8) (.tmp 31) ?ho ?hN q8 (#[.int .i64 0, .string ByteArray.empty, .string ByteArray.empty, .string ByteArray.empty, .bool false, .int .i64 0]) ?hx ?hy 25 _ BKq8.out ?hi ?hold ?h1 ?_; (case hg => rfl); (case ho => rfl); (case hN => rfl); (case hx => rfl); (case hy => rfl); (case hi => exact isz25); (case hold => rfl); (case h1 => first | rfl | exact one25 _ | simp [Value.oneCell']); intro w4 hw; have HB4 := Aside0.mk (show Below w.heap.size w w4 from by rw [hw]; exact below_setRow HB3.out HQq8.out _); have BKq8 := Aside0.mk (show w4.heap[q8]? = some (.cells (#[.int .i64 0, .string ByteArray.empty, .string ByteArray.empty, .string ByteArray.empty, .bool false, .int .i64 0]) 25 (0, 0)) from by rw [hw]; exact setRow_heap _ _ _ _ _ _ BKq8.out); clear hw))
  (try simp only [Exit.inBlock, Exit.then])
  refine bodyPost_ret (results_c3 Tryd.results14 _ _ q8 25 _ (0, 0) _ rfl BKq8.out Tryd.underlying25 rfl isz25) rfl ?_
  exact ⟨rfl, HB4.out⟩
set_option maxHeartbeats 1600000 in
set_option maxRecDepth 100000 in
theorem send_nil0 {w : World}  {c : Int} (hL : Laid w) (now spi n : Int)  (hv : ∀ W, Below w.heap.size w W → Calls Tryd.prog 27 #[.pointer none, .int .i64 now, .int .i64 spi, .bool true] W (FindNo c W)) :
    Calls Tryd.prog 14 #[.pointer none, .int .i64 now, .int .i64 spi, .int .i64 n] w fun e w' => e = .returned (.tuple #[v25 z25, .int .u64 0, .int .i64 c]) ∧ Below w.heap.size w w' := by
  have HV := Aside0.mk hv
  have HL := Aside0.mk fun (W : World) (hb : Below w.heap.size w W) => hL.below hL.pos hb
  clear hv hL
  go_enter Tryd.func14, Tryd.ntmps14
  go_wp2_with (first | ((with_reducible refine gate_dst (N := 8) rfl ?_); refine box_event ?hg (N := 8) ?hd (cs := #[.int .i64 0, .string ByteArray.empty, .string ByteArray.empty, .string ByteArray.empty, .bool false, .int .i64 0]) (t := 25) ?hr ?_; (case hd => rfl); (case hg => rfl); (case hr => first | (go_simp; done) | (go_simp; rfl)); intro q8 hq w1 hbox hb; have BKq8 := Aside0.mk hbox; have HQq8 := Aside0.mk (show w.heap.size ≤ q8 from by rw [hq]; exact Nat.le_refl _); have HB1 := Aside0.mk hb; clear hbox hb hq))
  refine (HV.out w1 HB1.out).mono ?_
  rintro e w2 ⟨⟨v, rfl, hv⟩, hb⟩
  have HB2 := Aside0.mk (HB1.out.trans (hb.mono HB1.out.size))
  have BKq8 := Aside0.mk (blk_below BKq8.out hb)
  have NW := Aside0.mk (number_walk (HL.out w2 HB2.out) hv)
  obtain ⟨k, s, rfl, _⟩ := hv
  clear hb
  go_wp2_with (fail)
  refine NW.out.mono ?_
  rintro e w3 ⟨rfl, hb⟩
  have HB3 := Aside0.mk (HB2.out.trans (hb.mono HB2.out.size))
  have BKq8 := Aside0.mk (blk_below BKq8.out hb)
  clear hb
  go_wp2_with (first | ((with_reducible refine gate_store (t := 25) (p := 8) rfl ?_); refine store_rowE ?hg 25 (.tmp 8) (.tmp 31) ?ho ?hN q8 (#[.int .i64 0, .string ByteArray.empty, .string ByteArray.empty, .string ByteArray.empty, .bool false, .int .i64 0]) ?hx ?hy 25 _ BKq8.out ?hi ?hold ?h1 ?_; (case hg => rfl); (case ho => rfl); (case hN => rfl); (case hx => rfl); (case hy => rfl); (case hi => exact isz25); (case hold => rfl); (case h1 => first | rfl | exact one25 _ | simp [Value.oneCell']); intro w4 hw; have HB4 := Aside0.mk (show Below w.heap.size w w4 from by rw [hw]; exact below_setRow HB3.out HQq8.out _); have BKq8 := Aside0.mk (show w4.heap[q8]? = some (.cells (#[.int .i64 0, .string ByteArray.empty, .string ByteArray.empty, .string ByteArray.empty, .bool false, .int .i64 0]) 25 (0, 0)) from by rw [hw]; exact setRow_heap _ _ _ _ _ _ BKq8.out); clear hw))
  (try simp only [Exit.inBlock, Exit.then])
  refine bodyPost_ret (results_c3 Tryd.results14 _ _ q8 25 _ (0, 0) _ rfl BKq8.out Tryd.underlying25 rfl isz25) rfl ?_
  exact ⟨rfl, HB4.out⟩
set_option maxHeartbeats 1600000 in
set_option maxRecDepth 100000 in
theorem send_full {w : World} {q P : Nat} {s : Nat} {wd : Bool} (now spi n : Int) (hn : 0 ≤ n) (hb4 : ∀ W, Below w.heap.size w W → W.cell? ⟨P, 4, none⟩ = some (.bool wd)) (hb14 : ∀ W, Below w.heap.size w W → W.cell? ⟨P, 14, none⟩ = some (.int .u64 (s : Int))) (hfull : ((s : Int) == 18446744073709551615) = true ∨ ((s : Int) == 18446744073709551615) = false ∧ wd = false ∧ ((s : Int) == 4294967295) = true) (hv : ∀ W, Below w.heap.size w W → Calls Tryd.prog 27 #[.pointer (some ⟨q, 0, none⟩), .int .i64 now, .int .i64 spi, .bool true] W (FindYes P W)) :
    Calls Tryd.prog 14 #[.pointer (some ⟨q, 0, none⟩), .int .i64 now, .int .i64 spi, .int .i64 n] w fun e w' => e = .returned (.tuple #[v25 z25, .int .u64 0, .int .i64 121]) ∧ Below w.heap.size w w' := by
  have HV := Aside0.mk hv
  have H4 := Aside0.mk hb4
  have H14 := Aside0.mk hb14
  have hn1 : decide (n < 0) = false := decide_eq_false (by omega)
  clear hv hb4 hb14 hn
  rcases hfull with h1 | ⟨h1, rfl, h2⟩
  · go_enter Tryd.func14, Tryd.ntmps14
    go_wp2_with (first | ((with_reducible refine gate_dst (N := 8) rfl ?_); refine box_event ?hg (N := 8) ?hd (cs := #[.int .i64 0, .string ByteArray.empty, .string ByteArray.empty, .string ByteArray.empty, .bool false, .int .i64 0]) (t := 25) ?hr ?_; (case hd => rfl); (case hg => rfl); (case hr => first | (go_simp; done) | (go_simp; rfl)); intro q8 hq w1 hbox hb; have BKq8 := Aside0.mk hbox; have HQq8 := Aside0.mk (show w.heap.size ≤ q8 from by rw [hq]; exact Nat.le_refl _); have HB1 := Aside0.mk hb; clear hbox hb hq))
    refine (HV.out w1 HB1.out).mono ?_
    rintro e w2 ⟨rfl, hb⟩
    have HB2 := Aside0.mk (HB1.out.trans (hb.mono HB1.out.size))
    have BKq8 := Aside0.mk (blk_below BKq8.out hb)
    have k4 := H4.out w2 HB2.out
    have k14 := H14.out w2 HB2.out
    clear hb
    go_wp2_with (first | ((with_reducible refine gate_store (t := 25) (p := 8) rfl ?_); refine store_rowE ?hg 25 (.tmp 8) (.tmp 56) ?ho ?hN q8 (#[.int .i64 0, .string ByteArray.empty, .string ByteArray.empty, .string ByteArray.empty, .bool false, .int .i64 0]) ?hx ?hy 25 _ BKq8.out ?hi ?hold ?h1 ?_; (case hg => rfl); (case ho => rfl); (case hN => rfl); (case hx => rfl); (case hy => rfl); (case hi => exact isz25); (case hold => rfl); (case h1 => first | rfl | exact one25 _ | simp [Value.oneCell']); intro w3 hw; have HB3 := Aside0.mk (show Below w.heap.size w w3 from by rw [hw]; exact below_setRow HB2.out HQq8.out _); have BKq8 := Aside0.mk (show w3.heap[q8]? = some (.cells (#[.int .i64 0, .string ByteArray.empty, .string ByteArray.empty, .string ByteArray.empty, .bool false, .int .i64 0]) 25 (0, 0)) from by rw [hw]; exact setRow_heap _ _ _ _ _ _ BKq8.out); clear hw))
    (try simp only [Exit.inBlock, Exit.then])
    refine bodyPost_ret (results_c3 Tryd.results14 _ _ q8 25 _ (0, 0) _ rfl BKq8.out Tryd.underlying25 rfl isz25) rfl ?_
    exact ⟨rfl, HB3.out⟩
  · go_enter Tryd.func14, Tryd.ntmps14
    go_wp2_with (first | ((with_reducible refine gate_dst (N := 8) rfl ?_); refine box_event ?hg (N := 8) ?hd (cs := #[.int .i64 0, .string ByteArray.empty, .string ByteArray.empty, .string ByteArray.empty, .bool false, .int .i64 0]) (t := 25) ?hr ?_; (case hd => rfl); (case hg => rfl); (case hr => first | (go_simp; done) | (go_simp; rfl)); intro q8 hq w1 hbox hb; have BKq8 := Aside0.mk hbox; have HQq8 := Aside0.mk (show w.heap.size ≤ q8 from by rw [hq]; exact Nat.le_refl _); have HB1 := Aside0.mk hb; clear hbox hb hq))
    refine (HV.out w1 HB1.out).mono ?_
    rintro e w2 ⟨rfl, hb⟩
    have HB2 := Aside0.mk (HB1.out.trans (hb.mono HB1.out.size))
    have BKq8 := Aside0.mk (blk_below BKq8.out hb)
    have k4 := H4.out w2 HB2.out
    have k14 := H14.out w2 HB2.out
    clear hb
    go_wp2_with (first | ((with_reducible refine gate_store (t := 25) (p := 8) rfl ?_); refine store_rowE ?hg 25 (.tmp 8) (.tmp 56) ?ho ?hN q8 (#[.int .i64 0, .string ByteArray.empty, .string ByteArray.empty, .string ByteArray.empty, .bool false, .int .i64 0]) ?hx ?hy 25 _ BKq8.out ?hi ?hold ?h1 ?_; (case hg => rfl); (case ho => rfl); (case hN => rfl); (case hx => rfl); (case hy => rfl); (case hi => exact isz25); (case hold => rfl); (case h1 => first | rfl | exact one25 _ | simp [Value.oneCell']); intro w3 hw; have HB3 := Aside0.mk (show Below w.heap.size w w3 from by rw [hw]; exact below_setRow HB2.out HQq8.out _); have BKq8 := Aside0.mk (show w3.heap[q8]? = some (.cells (#[.int .i64 0, .string ByteArray.empty, .string ByteArray.empty, .string ByteArray.empty, .bool false, .int .i64 0]) 25 (0, 0)) from by rw [hw]; exact setRow_heap _ _ _ _ _ _ BKq8.out); clear hw))
    (try simp only [Exit.inBlock, Exit.then])
    refine bodyPost_ret (results_c3 Tryd.results14 _ _ q8 25 _ (0, 0) _ rfl BKq8.out Tryd.underlying25 rfl isz25) rfl ?_
    exact ⟨rfl, HB3.out⟩
set_option maxHeartbeats 3200000 in
set_option maxRecDepth 100000 in
theorem send_ok {w : World} {base q P : Nat} {s : Nat} {wd : Bool} {bo bs : Int} {x : S25} {es' : List En} (now spi n : Int) (hn : 0 ≤ n) (hsum : IntKind.i64.wrap (bo + n) = bs) (hb : base ≤ w.heap.size) (hs1 : IntKind.u64.wrap ((s : Int) + 1) = ((s + 1 : Nat) : Int))
    (hc : ∀ W, Below w.heap.size w W → W.cell? ⟨P, 4, none⟩ = some (.bool wd) ∧ W.cell? ⟨P, 14, none⟩ = some (.int .u64 (s : Int)) ∧ W.cell? ⟨P, 13, none⟩ = some (.int .i64 bo) ∧ W.frozen? ⟨P, 13, none⟩ = false ∧ W.frozen? ⟨P, 14, none⟩ = false)
    (htab : ∀ W, Below w.heap.size w W → ∃ v ps, SadP ((W.setCell ⟨P, 14, none⟩ (.int .u64 ((s + 1 : Nat) : Int))).setCell ⟨P, 13, none⟩ (.int .i64 bs)) base q v ps es' ∧ Turn TP base W ((W.setCell ⟨P, 14, none⟩ (.int .u64 ((s + 1 : Nat) : Int))).setCell ⟨P, 13, none⟩ (.int .i64 bs)) ∧ (∀ W', W'.heap[P]? = ((W.setCell ⟨P, 14, none⟩ (.int .u64 ((s + 1 : Nat) : Int))).setCell ⟨P, 13, none⟩ (.int .i64 bs)).heap[P]? → (loadVar 25 ⟨P, 0, none⟩).run Tryd.prog W' = .ok (.agg (enc25 x).toArray) W' ∧ W'.cell? ⟨P, 14, none⟩ = some (.int .u64 ((s + 1 : Nat) : Int))) ∧ ∃ cs, W.heap[P]? = some (.cells cs 71 (0, 0)))
    (h1 : ((s : Int) == 18446744073709551615) = false) (h2 : wd = true ∨ wd = false ∧ ((s : Int) == 4294967295) = false) (hv : ∀ W, Below w.heap.size w W → Calls Tryd.prog 27 #[.pointer (some ⟨q, 0, none⟩), .int .i64 now, .int .i64 spi, .bool true] W (FindYes P W)) :
    Calls Tryd.prog 14 #[.pointer (some ⟨q, 0, none⟩), .int .i64 now, .int .i64 spi, .int .i64 n] w (PgQ base q es' (.tuple #[v25 x, .int .u64 ((s + 1 : Nat) : Int), .int .i64 0]) w) := by
  have HV := Aside0.mk hv
  have HC := Aside0.mk hc
  have HT := Aside0.mk htab
  have hn1 : decide (n < 0) = false := decide_eq_false (by omega)
  obtain ⟨s1, hse⟩ : ∃ k, s + 1 = k := ⟨_, rfl⟩
  rw [hse] at hs1 HT ⊢
  clear hv hc htab hn hb hse
  rcases h2 with rfl | ⟨rfl, h2⟩
  · go_enter Tryd.func14, Tryd.ntmps14
    go_wp2_with (first | ((with_reducible refine gate_dst (N := 8) rfl ?_); refine box_event ?hg (N := 8) ?hd (cs := #[.int .i64 0, .string ByteArray.empty, .string ByteArray.empty, .string ByteArray.empty, .bool false, .int .i64 0]) (t := 25) ?hr ?_; (case hd => rfl); (case hg => rfl); (case hr => first | (go_simp; done) | (go_simp; rfl)); intro q8 hq w1 hbox hb; have BKq8 := Aside0.mk hbox; have HQq8 := Aside0.mk (show w.heap.size ≤ q8 from by rw [hq]; exact Nat.le_refl _); have HB1 := Aside0.mk hb; clear hbox hb hq))
    refine (HV.out w1 HB1.out).mono ?_
    rintro e w2 ⟨rfl, hb⟩
    have HB2 := Aside0.mk (HB1.out.trans (hb.mono HB1.out.size))
    have BKq8 := Aside0.mk (blk_below BKq8.out hb)
    obtain ⟨k4, k14, k13, f13, f14⟩ := HC.out w2 HB2.out
    have HTT := Aside0.mk (HT.out w2 HB2.out)
    clear hb
    go_wp2_with (fail)
    obtain ⟨v', ps', hS, tS, hLD, cs, hcs⟩ := HTT.out
    have HLD := Aside0.mk hLD
    have HPQ := Aside0.mk (show P ≠ q8 from blk_ne hcs BKq8.out (by decide))
    have HS := Aside0.mk hS
    have TS := Aside0.mk ((Turn.of_below HB2.out).trans tS)
    have BKS := Aside0.mk (show ((w2.setCell ⟨P, 14, none⟩ (.int .u64 (s1 : Int))).setCell ⟨P, 13, none⟩ (.int .i64 bs)).heap[q8]? = some (.cells #[.int .i64 0, .string ByteArray.empty, .string ByteArray.empty, .string ByteArray.empty, .bool false, .int .i64 0] 25 (0, 0)) from blk_far (blk_far BKq8.out (Ne.symm HPQ.out) _) (Ne.symm HPQ.out) _)
    obtain ⟨wS, hwS⟩ : ∃ W, (w2.setCell ⟨P, 14, none⟩ (.int .u64 (s1 : Int))).setCell ⟨P, 13, none⟩ (.int .i64 bs) = W := ⟨_, rfl⟩
    rw [hwS] at HS TS BKS HLD ⊢
    clear hS tS hLD hcs hwS k4 k14 k13 f13 f14 HTT
    refine start_ (n := 12) (S := fun W => W.heap[P]? = wS.heap[P]?) (ds := []) #[false, false, false, false, false, false, false, false, false, false, false, false] (by kernel_rfl) rfl rfl rfl (fun hHeld => ?_)
    refine pure_ (i := 0) (N := some 72) (v := ?_) (a' := ?_) #[true, false, false, false, false, false, false, false, false, false, false, false] rfl rfl (by kernel_rfl) (fun _ _ _ h => h) (Or.inl ⟨by rfl, ?_⟩) ?_ ?_
    rotate_left
    · intro w'
      go_simp
      with_reducible rfl
    rotate_left
    · simp only [Act.put, List.setIfInBounds_toArray, List.set_cons_zero, List.set_cons_succ]
      rfl
    refine pure_ (i := 1) (N := some 73) (v := ?_) (a' := ?_) #[true, true, false, false, false, false, false, false, false, false, false, false] rfl rfl (by kernel_rfl) (fun _ _ _ h => h) (Or.inl ⟨by rfl, ?_⟩) ?_ ?_
    rotate_left
    · intro w'
      go_simp
      with_reducible rfl
    rotate_left
    · simp only [Act.put, List.setIfInBounds_toArray, List.set_cons_zero, List.set_cons_succ]
      rfl
    refine pure_ (i := 2) (N := some 74) (v := ?_) (a' := ?_) #[true, true, true, false, false, false, false, false, false, false, false, false] rfl rfl (by kernel_rfl) (fun _ _ _ h => h) (Or.inl ⟨by rfl, ?_⟩) ?_ ?_
    rotate_left
    · intro w'
      go_simp
      with_reducible rfl
    rotate_left
    · simp only [Act.put, List.setIfInBounds_toArray, List.set_cons_zero, List.set_cons_succ]
      rfl
    refine pure_ (i := 3) (N := some 75) (v := ?_) (a' := ?_) #[true, true, true, true, false, false, false, false, false, false, false, false] rfl rfl (by kernel_rfl) (fun _ _ _ h => h) (Or.inl ⟨by rfl, ?_⟩) ?_ ?_
    rotate_left
    · intro w'
      go_simp
      with_reducible rfl
    rotate_left
    · simp only [Act.put, List.setIfInBounds_toArray, List.set_cons_zero, List.set_cons_succ]
      rfl
    refine take_ (i := 4) (N := some 76) (v := ?_) (a' := ?_) #[true, true, true, true, true, false, false, false, false, false, false, false] rfl rfl (by kernel_rfl) (fun _ _ _ h => h) (Or.inl ⟨by rfl, ?_⟩) hHeld ?_ ?_
    rotate_left
    · intro w' s0
      obtain ⟨LD, k14⟩ := HLD.out _ s0
      refine load_runA 25 (.tmp 75) ⟨P, 0, none⟩ (#[.int .i64 x.f0, .string x.f1, .string x.f2, .string x.f3, .bool x.f4, .int .i64 x.f5]) ?_ ?_ LD
      · rfl
      · rfl
    rotate_left
    · simp only [Act.put, List.setIfInBounds_toArray, List.set_cons_zero, List.set_cons_succ]
      rfl
    refine pure_ (i := 5) (N := some 77) (v := ?_) (a' := ?_) #[true, true, true, true, true, true, false, false, false, false, false, false] rfl rfl (by kernel_rfl) (fun _ _ _ h => h) (Or.inl ⟨by rfl, ?_⟩) ?_ ?_
    rotate_left
    · intro w'
      go_simp
      with_reducible rfl
    rotate_left
    · simp only [Act.put, List.setIfInBounds_toArray, List.set_cons_zero, List.set_cons_succ]
      rfl
    refine pure_ (i := 6) (N := some 78) (v := ?_) (a' := ?_) #[true, true, true, true, true, true, true, false, false, false, false, false] rfl rfl (by kernel_rfl) (fun _ _ _ h => h) (Or.inl ⟨by rfl, ?_⟩) ?_ ?_
    rotate_left
    · intro w'
      go_simp
      with_reducible rfl
    rotate_left
    · simp only [Act.put, List.setIfInBounds_toArray, List.set_cons_zero, List.set_cons_succ]
      rfl
    refine pure_ (i := 7) (N := some 79) (v := ?_) (a' := ?_) #[true, true, true, true, true, true, true, true, false, false, false, false] rfl rfl (by kernel_rfl) (fun _ _ _ h => h) (Or.inl ⟨by rfl, ?_⟩) ?_ ?_
    rotate_left
    · intro w'
      go_simp
      with_reducible rfl
    rotate_left
    · simp only [Act.put, List.setIfInBounds_toArray, List.set_cons_zero, List.set_cons_succ]
      rfl
    refine take_ (i := 8) (N := some 80) (v := ?_) (a' := ?_) #[true, true, true, true, true, true, true, true, true, false, false, false] rfl rfl (by kernel_rfl) (fun _ _ _ h => h) (Or.inl ⟨by rfl, ?_⟩) hHeld ?_ ?_
    rotate_left
    · intro w' s0
      obtain ⟨LD, k14⟩ := HLD.out _ s0
      go_simp
      with_reducible rfl
    rotate_left
    · simp only [Act.put, List.setIfInBounds_toArray, List.set_cons_zero, List.set_cons_succ]
      rfl
    refine one_ (i := 9) (N := none) #[true, true, true, true, true, true, true, true, true, true, false, false] rfl rfl (by kernel_rfl) (by decide) (fun K hK => ?_)
    refine skip_ (w1 := wS.drew.setRow q8 (#[.int .i64 x.f0, .string x.f1, .string x.f2, .string x.f3, .bool x.f4, .int .i64 x.f5])) (by rfl) rfl ?_ ?_
    · refine store_runA 25 (.tmp 8) (.tmp 76) rfl q8 (#[.int .i64 x.f0, .string x.f1, .string x.f2, .string x.f3, .bool x.f4, .int .i64 x.f5]) ?_ ?_ 25 _ (blk_drew BKS.out) isz25 rfl (one25 x)
      · rfl
      · rfl
    refine hK.out _ _ ((setRow_other _ _ _ _ HPQ.out).trans hHeld) (fun hHeld => ?_)
    have BK9 := Aside0.mk (show (wS.drew.setRow q8 (#[.int .i64 x.f0, .string x.f1, .string x.f2, .string x.f3, .bool x.f4, .int .i64 x.f5])).heap[q8]? = some (.cells (#[.int .i64 x.f0, .string x.f1, .string x.f2, .string x.f3, .bool x.f4, .int .i64 x.f5]) 25 (0, 0)) from setRow_heap _ _ _ _ _ _ (blk_drew BKS.out))
    have H9 := Aside0.mk (SadP.setRow HS.out.drew (blk_drew BKS.out) (by unfold Ty.has; decide) (#[.int .i64 x.f0, .string x.f1, .string x.f2, .string x.f3, .bool x.f4, .int .i64 x.f5]))
    have T9 := Aside0.mk (Turn.setRow TS.out.drew HQq8.out (#[.int .i64 x.f0, .string x.f1, .string x.f2, .string x.f3, .bool x.f4, .int .i64 x.f5]))
    obtain ⟨w9, hw9⟩ : ∃ W, wS.drew.setRow q8 (#[.int .i64 x.f0, .string x.f1, .string x.f2, .string x.f3, .bool x.f4, .int .i64 x.f5]) = W := ⟨_, rfl⟩
    rw [hw9] at BK9 H9 T9 hHeld ⊢
    clear hK K hw9
    refine pure_ (i := 10) (N := some 9) (v := ?_) (a' := ?_) #[true, true, true, true, true, true, true, true, true, true, true, false] rfl rfl (by kernel_rfl) (fun _ _ _ h => h) (Or.inl ⟨by rfl, ?_⟩) ?_ ?_
    rotate_left
    · intro w'
      go_simp
      with_reducible rfl
    rotate_left
    · simp only [Act.put, List.setIfInBounds_toArray, List.set_cons_zero, List.set_cons_succ]
      rfl
    refine pure_ (i := 11) (N := some 10) (v := ?_) (a' := ?_) #[true, true, true, true, true, true, true, true, true, true, true, true] rfl rfl (by kernel_rfl) (fun _ _ _ h => h) (Or.inl ⟨by rfl, ?_⟩) ?_ ?_
    rotate_left
    · intro w'
      go_simp
      with_reducible rfl
    rotate_left
    · simp only [Act.put, List.setIfInBounds_toArray, List.set_cons_zero, List.set_cons_succ]
      rfl
    refine done_ (by kernel_rfl) ?_
    (try simp only [Exit.inBlock, Exit.then])
    go_wp2_with (fail)
    (try simp only [Exit.inBlock, Exit.then])
    refine bodyPost_ret (results_c3 Tryd.results14 _ _ q8 25 _ (0, 0) _ rfl BK9.out Tryd.underlying25 rfl isz25) rfl ?_
    exact ⟨rfl, ⟨_, _, H9.out⟩, T9.out⟩
  · go_enter Tryd.func14, Tryd.ntmps14
    go_wp2_with (first | ((with_reducible refine gate_dst (N := 8) rfl ?_); refine box_event ?hg (N := 8) ?hd (cs := #[.int .i64 0, .string ByteArray.empty, .string ByteArray.empty, .string ByteArray.empty, .bool false, .int .i64 0]) (t := 25) ?hr ?_; (case hd => rfl); (case hg => rfl); (case hr => first | (go_simp; done) | (go_simp; rfl)); intro q8 hq w1 hbox hb; have BKq8 := Aside0.mk hbox; have HQq8 := Aside0.mk (show w.heap.size ≤ q8 from by rw [hq]; exact Nat.le_refl _); have HB1 := Aside0.mk hb; clear hbox hb hq))
    refine (HV.out w1 HB1.out).mono ?_
    rintro e w2 ⟨rfl, hb⟩
    have HB2 := Aside0.mk (HB1.out.trans (hb.mono HB1.out.size))
    have BKq8 := Aside0.mk (blk_below BKq8.out hb)
    obtain ⟨k4, k14, k13, f13, f14⟩ := HC.out w2 HB2.out
    have HTT := Aside0.mk (HT.out w2 HB2.out)
    clear hb
    go_wp2_with (fail)
    obtain ⟨v', ps', hS, tS, hLD, cs, hcs⟩ := HTT.out
    have HLD := Aside0.mk hLD
    have HPQ := Aside0.mk (show P ≠ q8 from blk_ne hcs BKq8.out (by decide))
    have HS := Aside0.mk hS
    have TS := Aside0.mk ((Turn.of_below HB2.out).trans tS)
    have BKS := Aside0.mk (show ((w2.setCell ⟨P, 14, none⟩ (.int .u64 (s1 : Int))).setCell ⟨P, 13, none⟩ (.int .i64 bs)).heap[q8]? = some (.cells #[.int .i64 0, .string ByteArray.empty, .string ByteArray.empty, .string ByteArray.empty, .bool false, .int .i64 0] 25 (0, 0)) from blk_far (blk_far BKq8.out (Ne.symm HPQ.out) _) (Ne.symm HPQ.out) _)
    obtain ⟨wS, hwS⟩ : ∃ W, (w2.setCell ⟨P, 14, none⟩ (.int .u64 (s1 : Int))).setCell ⟨P, 13, none⟩ (.int .i64 bs) = W := ⟨_, rfl⟩
    rw [hwS] at HS TS BKS HLD ⊢
    clear hS tS hLD hcs hwS k4 k14 k13 f13 f14 HTT
    refine start_ (n := 12) (S := fun W => W.heap[P]? = wS.heap[P]?) (ds := []) #[false, false, false, false, false, false, false, false, false, false, false, false] (by kernel_rfl) rfl rfl rfl (fun hHeld => ?_)
    refine pure_ (i := 0) (N := some 72) (v := ?_) (a' := ?_) #[true, false, false, false, false, false, false, false, false, false, false, false] rfl rfl (by kernel_rfl) (fun _ _ _ h => h) (Or.inl ⟨by rfl, ?_⟩) ?_ ?_
    rotate_left
    · intro w'
      go_simp
      with_reducible rfl
    rotate_left
    · simp only [Act.put, List.setIfInBounds_toArray, List.set_cons_zero, List.set_cons_succ]
      rfl
    refine pure_ (i := 1) (N := some 73) (v := ?_) (a' := ?_) #[true, true, false, false, false, false, false, false, false, false, false, false] rfl rfl (by kernel_rfl) (fun _ _ _ h => h) (Or.inl ⟨by rfl, ?_⟩) ?_ ?_
    rotate_left
    · intro w'
      go_simp
      with_reducible rfl
    rotate_left
    · simp only [Act.put, List.setIfInBounds_toArray, List.set_cons_zero, List.set_cons_succ]
      rfl
    refine pure_ (i := 2) (N := some 74) (v := ?_) (a' := ?_) #[true, true, true, false, false, false, false, false, false, false, false, false] rfl rfl (by kernel_rfl) (fun _ _ _ h => h) (Or.inl ⟨by rfl, ?_⟩) ?_ ?_
    rotate_left
    · intro w'
      go_simp
      with_reducible rfl
    rotate_left
    · simp only [Act.put, List.setIfInBounds_toArray, List.set_cons_zero, List.set_cons_succ]
      rfl
    refine pure_ (i := 3) (N := some 75) (v := ?_) (a' := ?_) #[true, true, true, true, false, false, false, false, false, false, false, false] rfl rfl (by kernel_rfl) (fun _ _ _ h => h) (Or.inl ⟨by rfl, ?_⟩) ?_ ?_
    rotate_left
    · intro w'
      go_simp
      with_reducible rfl
    rotate_left
    · simp only [Act.put, List.setIfInBounds_toArray, List.set_cons_zero, List.set_cons_succ]
      rfl
    refine take_ (i := 4) (N := some 76) (v := ?_) (a' := ?_) #[true, true, true, true, true, false, false, false, false, false, false, false] rfl rfl (by kernel_rfl) (fun _ _ _ h => h) (Or.inl ⟨by rfl, ?_⟩) hHeld ?_ ?_
    rotate_left
    · intro w' s0
      obtain ⟨LD, k14⟩ := HLD.out _ s0
      refine load_runA 25 (.tmp 75) ⟨P, 0, none⟩ (#[.int .i64 x.f0, .string x.f1, .string x.f2, .string x.f3, .bool x.f4, .int .i64 x.f5]) ?_ ?_ LD
      · rfl
      · rfl
    rotate_left
    · simp only [Act.put, List.setIfInBounds_toArray, List.set_cons_zero, List.set_cons_succ]
      rfl
    refine pure_ (i := 5) (N := some 77) (v := ?_) (a' := ?_) #[true, true, true, true, true, true, false, false, false, false, false, false] rfl rfl (by kernel_rfl) (fun _ _ _ h => h) (Or.inl ⟨by rfl, ?_⟩) ?_ ?_
    rotate_left
    · intro w'
      go_simp
      with_reducible rfl
    rotate_left
    · simp only [Act.put, List.setIfInBounds_toArray, List.set_cons_zero, List.set_cons_succ]
      rfl
    refine pure_ (i := 6) (N := some 78) (v := ?_) (a' := ?_) #[true, true, true, true, true, true, true, false, false, false, false, false] rfl rfl (by kernel_rfl) (fun _ _ _ h => h) (Or.inl ⟨by rfl, ?_⟩) ?_ ?_
    rotate_left
    · intro w'
      go_simp
      with_reducible rfl
    rotate_left
    · simp only [Act.put, List.setIfInBounds_toArray, List.set_cons_zero, List.set_cons_succ]
      rfl
    refine pure_ (i := 7) (N := some 79) (v := ?_) (a' := ?_) #[true, true, true, true, true, true, true, true, false, false, false, false] rfl rfl (by kernel_rfl) (fun _ _ _ h => h) (Or.inl ⟨by rfl, ?_⟩) ?_ ?_
    rotate_left
    · intro w'
      go_simp
      with_reducible rfl
    rotate_left
    · simp only [Act.put, List.setIfInBounds_toArray, List.set_cons_zero, List.set_cons_succ]
      rfl
    refine take_ (i := 8) (N := some 80) (v := ?_) (a' := ?_) #[true, true, true, true, true, true, true, true, true, false, false, false] rfl rfl (by kernel_rfl) (fun _ _ _ h => h) (Or.inl ⟨by rfl, ?_⟩) hHeld ?_ ?_
    rotate_left
    · intro w' s0
      obtain ⟨LD, k14⟩ := HLD.out _ s0
      go_simp
      with_reducible rfl
    rotate_left
    · simp only [Act.put, List.setIfInBounds_toArray, List.set_cons_zero, List.set_cons_succ]
      rfl
    refine one_ (i := 9) (N := none) #[true, true, true, true, true, true, true, true, true, true, false, false] rfl rfl (by kernel_rfl) (by decide) (fun K hK => ?_)
    refine skip_ (w1 := wS.drew.setRow q8 (#[.int .i64 x.f0, .string x.f1, .string x.f2, .string x.f3, .bool x.f4, .int .i64 x.f5])) (by rfl) rfl ?_ ?_
    · refine store_runA 25 (.tmp 8) (.tmp 76) rfl q8 (#[.int .i64 x.f0, .string x.f1, .string x.f2, .string x.f3, .bool x.f4, .int .i64 x.f5]) ?_ ?_ 25 _ (blk_drew BKS.out) isz25 rfl (one25 x)
      · rfl
      · rfl
    refine hK.out _ _ ((setRow_other _ _ _ _ HPQ.out).trans hHeld) (fun hHeld => ?_)
    have BK9 := Aside0.mk (show (wS.drew.setRow q8 (#[.int .i64 x.f0, .string x.f1, .string x.f2, .string x.f3, .bool x.f4, .int .i64 x.f5])).heap[q8]? = some (.cells (#[.int .i64 x.f0, .string x.f1, .string x.f2, .string x.f3, .bool x.f4, .int .i64 x.f5]) 25 (0, 0)) from setRow_heap _ _ _ _ _ _ (blk_drew BKS.out))
    have H9 := Aside0.mk (SadP.setRow HS.out.drew (blk_drew BKS.out) (by unfold Ty.has; decide) (#[.int .i64 x.f0, .string x.f1, .string x.f2, .string x.f3, .bool x.f4, .int .i64 x.f5]))
    have T9 := Aside0.mk (Turn.setRow TS.out.drew HQq8.out (#[.int .i64 x.f0, .string x.f1, .string x.f2, .string x.f3, .bool x.f4, .int .i64 x.f5]))
    obtain ⟨w9, hw9⟩ : ∃ W, wS.drew.setRow q8 (#[.int .i64 x.f0, .string x.f1, .string x.f2, .string x.f3, .bool x.f4, .int .i64 x.f5]) = W := ⟨_, rfl⟩
    rw [hw9] at BK9 H9 T9 hHeld ⊢
    clear hK K hw9
    refine pure_ (i := 10) (N := some 9) (v := ?_) (a' := ?_) #[true, true, true, true, true, true, true, true, true, true, true, false] rfl rfl (by kernel_rfl) (fun _ _ _ h => h) (Or.inl ⟨by rfl, ?_⟩) ?_ ?_
    rotate_left
    · intro w'
      go_simp
      with_reducible rfl
    rotate_left
    · simp only [Act.put, List.setIfInBounds_toArray, List.set_cons_zero, List.set_cons_succ]
      rfl
    refine pure_ (i := 11) (N := some 10) (v := ?_) (a' := ?_) #[true, true, true, true, true, true, true, true, true, true, true, true] rfl rfl (by kernel_rfl) (fun _ _ _ h => h) (Or.inl ⟨by rfl, ?_⟩) ?_ ?_
    rotate_left
    · intro w'
      go_simp
      with_reducible rfl
    rotate_left
    · simp only [Act.put, List.setIfInBounds_toArray, List.set_cons_zero, List.set_cons_succ]
      rfl
    refine done_ (by kernel_rfl) ?_
    (try simp only [Exit.inBlock, Exit.then])
    go_wp2_with (fail)
    (try simp only [Exit.inBlock, Exit.then])
    refine bodyPost_ret (results_c3 Tryd.results14 _ _ q8 25 _ (0, 0) _ rfl BK9.out Tryd.underlying25 rfl isz25) rfl ?_
    exact ⟨rfl, ⟨_, _, H9.out⟩, T9.out⟩
theorem send_call {w : World} {base q k : Nat} {es : List En} (h : SadX w base q es) (hL : Laid w) (hl : es.length ≤ 1000) (now spi n : Int) (hn9 : n ≤ 1000000000) (hk : k ≤ 200) (hg : ∀ e ∈ es, Good k e) (h0 : -1000000000 ≤ now) (h1 : now ≤ 4000000000) :
    Calls Tryd.prog 14 #[.pointer (some ⟨q, 0, none⟩), .int .i64 now, .int .i64 spi, .int .i64 n] w (PgQ base q (sendF es now spi n).1 (.tuple #[v25 (sendF es now spi n).2.1, .int .u64 (sendF es now spi n).2.2.1, .int .i64 (sendF es now spi n).2.2.2]) w) := by
  obtain ⟨v, ps, hp⟩ := h
  have ht : ∀ e ∈ es, Timed e now := fun e he => (hg e he).timed h0 h1
  unfold sendF
  by_cases hn : n < 0
  · rw [if_pos hn]
    exact (send_neg now spi n hn fun W hb => live_any (hp.below hb) hl now spi true ht).mono fun e w' ⟨he, hb⟩ => ⟨he, ⟨_, _, hp.below hb⟩, .of_below hb⟩
  · rw [if_neg hn]
    by_cases hf : findI es spi true < es.length
    · rw [if_pos hf]
      by_cases ha : ageE (es.getD (findI es spi true) en0) now = 2
      · rw [if_pos ha]
        exact (send_no hL now spi n (by omega) fun W hb => live_hard now spi true (find_yes (hp.below hb) hl spi true hf) ((hp.below hb).at _ hf).blk (ht _ (getD_mem hf)) ha).mono fun e w' ⟨he, hb⟩ => ⟨he, ⟨_, _, hp.below hb⟩, .of_below hb⟩
      · rw [if_neg ha]
        have HV := fun (W : World) (hb : Below w.heap.size w W) => live_yes now spi true (find_yes (hp.below hb) hl spi true hf) ((hp.below hb).at _ hf).blk (ht _ (getD_mem hf)) ha
        have hgi := hg _ (getD_mem hf)
        obtain ⟨i, hi⟩ : ∃ i, findI es spi true = i := ⟨_, rfl⟩
        rw [hi] at hf HV hgi ⊢
        have hat := fun (W : World) (hb : Below w.heap.size w W) => ((hp.below hb).at i hf).blk
        by_cases hfull : fullB (es.getD i en0) = true
        · rw [if_pos hfull]
          refine (send_full (P := (ps.getD i pl0).p) (s := (es.getD i en0).sent) (wd := (es.getD i en0).life.f0.f4) now spi n (by omega) (fun W hb => (blk_cell (hat W hb) 4).trans rfl) (fun W hb => (blk_cell (hat W hb) 14).trans rfl) ?_ HV).mono fun e w' ⟨he, hb⟩ => ⟨he, ⟨_, _, hp.below hb⟩, .of_below hb⟩
          unfold fullB at hfull
          cases hA : (((es.getD i en0).sent : Int) == 18446744073709551615)
          · rw [hA] at hfull
            simp only [Bool.false_or, Bool.and_eq_true, Bool.not_eq_true'] at hfull
            exact .inr ⟨rfl, hfull.1, hfull.2⟩
          · exact .inl rfl
        · rw [if_neg hfull]
          have hfull := Bool.eq_false_iff.2 hfull
          have hsn := (hgi.send (n := n) (by omega) hn9 hfull).sent
          have hby := hgi.bytes
          refine send_ok (P := (ps.getD i pl0).p) (s := (es.getD i en0).sent) (wd := (es.getD i en0).life.f0.f4) (bo := (es.getD i en0).bytes) (bs := (es.getD i en0).bytes + n) (x := (es.getD i en0).life.f0) now spi n (by omega) (IntWalk.i64_in _ (by omega)) hp.base_le (by have : (es.getD i en0).sent + 1 < 18446744073709551616 := hsn; rw [IntKind.wrap_u64]; omega)
            (fun W hb => ⟨(blk_cell (hat W hb) 4).trans rfl, (blk_cell (hat W hb) 14).trans rfl, (blk_cell (hat W hb) 13).trans rfl, blk_frozen (hat W hb) 13, blk_frozen (hat W hb) 14⟩) (fun W hb => ?_) ?_ ?_ HV
          · obtain ⟨ps1, g1, t1, p1⟩ := set_tab (hp.below hb) i hf 14 (.int .u64 (((es.getD i en0).sent + 1 : Nat) : Int)) { es.getD i en0 with sent := (es.getD i en0).sent + 1 } rfl rfl rfl
            have hf1 : i < (es.set i { es.getD i en0 with sent := (es.getD i en0).sent + 1 }).length := by rw [List.length_set]; exact hf
            have hgd : (es.set i { es.getD i en0 with sent := (es.getD i en0).sent + 1 }).getD i en0 = { es.getD i en0 with sent := (es.getD i en0).sent + 1 } := by rw [getD_set _ _ _ _ _ hf, if_pos rfl]
            obtain ⟨ps2, g2, t2, p2⟩ := set_tab g1 i hf1 13 (.int .i64 ((es.getD i en0).bytes + n)) (sendE (es.getD i en0) n) (by rw [hgd]; rfl) (by rw [hgd]; rfl) (by rw [hgd]; rfl)
            rw [p1] at g2 t2 p2
            rw [List.set_set] at g2
            have hl2 := (g2.at i (by rw [List.length_set]; exact hf)).blk
            rw [p2, getD_set _ _ _ _ _ hf, if_pos rfl] at hl2
            refine ⟨v, ps2, g2, t1.trans t2, fun W' hW => ?_, _, hat W hb⟩
            rw [hl2] at hW
            exact ⟨load25 (e := sendE (es.getD i en0) n) hW, (blk_cell hW 14).trans rfl⟩
          · unfold fullB at hfull
            simp only [Bool.or_eq_false_iff] at hfull
            exact hfull.1
          · unfold fullB at hfull
            simp only [Bool.or_eq_false_iff] at hfull
            cases hw : (es.getD i en0).life.f0.f4
            · rw [hw] at hfull
              exact .inr ⟨rfl, by simpa using hfull.2⟩
            · exact .inl rfl
    · rw [if_neg hf]
      exact (send_no hL now spi n (by omega) fun W hb => live_no now spi true (find_no (hp.below hb) hl spi true hf)).mono fun e w' ⟨he, hb⟩ => ⟨he, ⟨_, _, hp.below hb⟩, .of_below hb⟩
theorem send_nil (w : World) (hL : Laid w) (now spi n : Int) : Calls Tryd.prog 14 #[.pointer none, .int .i64 now, .int .i64 spi, .int .i64 n] w fun e w' => e = .returned (.tuple #[v25 z25, .int .u64 0, .int .i64 3]) ∧ Below w.heap.size w w' :=
  send_nil0 hL now spi n fun W hb => live_no now spi true (find_nil W spi true)
end Go.Proofs.YtkmnpnbfeiobiaaDoor.Sd
namespace Go.Proofs.YtkmnpnbfeiobiaaDoor.Sd
open Go.RowKit Go.Proofs.YtkmnpnbfeiobiaaDoorW.PrintWords Go.Proofs.YtkmnpnbfeiobiaaDoorW.PrintLast Go.Proofs.YtkmnpnbfeiobiaaDoorW.PrintMore Go.Proofs.YtkmnpnbfeiobiaaDoor.QSa
open Go.Proofs.YtkmnpnbfeiobiaaDoor
set_option linter.unusedVariables false
set_option linter.unusedSimpArgs false
/-- May keys be? -/
def mayP (x : S25) : Bool := decide (256 ≤ x.f0) && decide (x.f0 ≤ 4294967295) && (decide ((x.f1.size : Int) = 16) || decide ((x.f1.size : Int) = 32)) && decide ((x.f2.size : Int) = 4) && decide ((x.f3.size : Int) = 32) && decide (64 ≤ x.f5) && decide (x.f5 ≤ 1024)
theorem check_f (x : S25) : esp_Check.f x.f0 x.f1 x.f2 x.f3 x.f4 x.f5 = some (if mayP x = true then 0 else 1) := by
  unfold esp_Check.f mayP
  repeat' split
  all_goals (first | rfl | (rename_i h; simp only [Bool.and_eq_true, Bool.or_eq_true, decide_eq_true_eq] at h; exfalso; omega))
theorem may14_f (x : S25) : redoubtref14_May.f x.f0 x.f1 x.f2 x.f3 x.f4 x.f5 = some (mayP x) := by
  unfold redoubtref14_May.f mayP
  repeat' split
  all_goals (congr 1; apply Bool.eq_iff_iff.2; simp only [Bool.and_eq_true, Bool.or_eq_true, decide_eq_true_eq, Bool.false_eq_true, false_iff, true_iff, iff_true, iff_false]; omega)
theorem check_walk (x : S25) (w : World) : Calls Tryd.prog 24 #[.agg #[.int .i64 x.f0, .string x.f1, .string x.f2, .string x.f3, .bool x.f4, .int .i64 x.f5]] w fun e w' => e = .returned (.int .i64 (if mayP x = true then 0 else 1)) ∧ Below w.heap.size w w' :=
  esp_Check.calls x.f0 x.f1 x.f2 x.f3 x.f4 x.f5 _ w (check_f x)
def m2 (x y : Int) : Int := if y < x then y else x
theorem m2_neg (x y : Int) : m2 x y < 0 ↔ x < 0 ∨ y < 0 := by
  unfold m2
  split <;> omega
theorem run_min6 (W : World) (ats : Array TypeId) (ty : TypeId) (a b c d e f : Int) : (Builtin.min_ ats ty #[.int .i64 a, .int .i64 b, .int .i64 c, .int .i64 d, .int .i64 e, .int .i64 f]).run Tryd.prog W = .ok (.int .i64 (m2 (m2 (m2 (m2 (m2 a b) c) d) e) f)) W := by
  simp only [Builtin.min_, List.foldlM_cons, List.foldlM_nil, min2_int, m2]
  rfl
/-- May a life be? -/
def mayL (x : S27) : Bool := mayP x.f0 && decide (0 ≤ x.f1) && decide (0 ≤ x.f3) && decide (0 ≤ x.f4) && decide (0 ≤ x.f5) && decide (0 ≤ x.f6)
def newE (x : S27) (now : Int) : En := ⟨x, now, 0, 0, (0, List.replicate x.f0.f5.toNat false), []⟩
def addF (es : List En) (now : Int) (x : S27) : List En × Int :=
  if mayL x = true ∧ 0 ≤ now then (if findI es x.f0.f0 x.f2 < es.length then (es, 9) else if 32 ≤ es.length then (es, 7) else (es ++ [newE x now], 0)) else (es, 1)
theorem newE_good (x : S27) (now : Int) (k : Nat) (hm : mayL x = true) (h0 : 0 ≤ now) (h1 : now ≤ 1000000000) : Good k (newE x now) := by
  simp only [mayL, mayP, Bool.and_eq_true, decide_eq_true_eq] at hm
  refine ⟨by show 64 ≤ x.f0.f5; omega, by show x.f0.f5 ≤ 1024; omega, Win.Inv.new _, by show (0 : Nat) < _; omega, by show (0 : Nat) < _; omega, ⟨h0, h1⟩, ⟨Int.le_refl _, by show (0 : Int) ≤ _; omega⟩, by show 256 ≤ x.f0.f0; omega, Nat.zero_le _⟩
theorem load25b {W : World} {q : Nat} {x : S27} {t : TypeId} (h : W.heap[q]? = some (.cells (#[.int .i64 x.f0.f0, .string x.f0.f1, .string x.f0.f2, .string x.f0.f3, .bool x.f0.f4, .int .i64 x.f0.f5, .int .i64 x.f1, .bool x.f2, .int .i64 x.f3, .int .i64 x.f4, .int .i64 x.f5, .int .i64 x.f6]) t (0, 0))) : (loadVar 25 ⟨q, 0, none⟩).run Tryd.prog W = .ok (.agg (#[.int .i64 x.f0.f0, .string x.f0.f1, .string x.f0.f2, .string x.f0.f3, .bool x.f0.f4, .int .i64 x.f0.f5])) W := by
  refine load_blk h (enc25 x.f0) (fun j v hv => ?_) _ Tryd.underlying25 rfl isz25
  unfold enc25 at hv
  match j with
  | 0 | 1 | 2 | 3 | 4 | 5 => exact hv
  | j + 6 => simp at hv
theorem find_any {w : World} {base q : Nat} {v : Value} {ps : List Pl} {es : List En} (hp : SadP w base q v ps es) (hl : es.length ≤ 1000) (spi : Int) (out : Bool) :
    Calls Tryd.prog 23 #[.pointer (some ⟨q, 0, none⟩), .int .i64 spi, .bool out] w (LiveAny w) := by
  by_cases hf : findI es spi out < es.length
  · exact (find_yes hp hl spi out hf).mono fun _ _ h => h.any
  · exact (find_no hp hl spi out hf).mono fun _ _ h => h.any
set_option maxHeartbeats 1600000 in
set_option maxRecDepth 100000 in
theorem add_nil (w : World) (now : Int) (x : S27) : Calls Tryd.prog 10 #[.pointer none, .int .i64 now, .agg (#[.int .i64 x.f0.f0, .string x.f0.f1, .string x.f0.f2, .string x.f0.f3, .bool x.f0.f4, .int .i64 x.f0.f5, .int .i64 x.f1, .bool x.f2, .int .i64 x.f3, .int .i64 x.f4, .int .i64 x.f5, .int .i64 x.f6])] w fun e w' => e = .returned (.int .i64 3) ∧ Below w.heap.size w w' := by
  have FN := Aside0.mk fun W => find_nil W x.f0.f0 x.f2
  go_enter Tryd.func10, Tryd.ntmps10
  go_wp2_with (first | ((with_reducible refine gate_dst (N := 5) rfl ?_); refine box_event ?hg (N := 5) ?hd (cs := #[.int .i64 x.f0.f0, .string x.f0.f1, .string x.f0.f2, .string x.f0.f3, .bool x.f0.f4, .int .i64 x.f0.f5, .int .i64 x.f1, .bool x.f2, .int .i64 x.f3, .int .i64 x.f4, .int .i64 x.f5, .int .i64 x.f6]) (t := 27) ?hr ?_; (case hd => rfl); (case hg => rfl); (case hr => first | (go_simp; done) | (go_simp; rfl)); intro q5 hq w1 hbox hb; have BKq5 := Aside0.mk hbox; have HQq5 := Aside0.mk (show w.heap.size ≤ q5 from by rw [hq]; exact Nat.le_refl _); have HB1 := Aside0.mk hb; clear hbox hb hq; have y0 : w1.cell? ⟨q5, 0, none⟩ = some (.int .i64 x.f0.f0) := (blk_cell BKq5.out 0).trans rfl; have y7 : w1.cell? ⟨q5, 7, none⟩ = some (.bool x.f2) := (blk_cell BKq5.out 7).trans rfl))
  refine (FN.out w1).mono ?_
  rintro e w2 ⟨⟨v, rfl, hv⟩, hb⟩
  obtain ⟨k, s, rfl, _⟩ := hv
  have HB2 := Aside0.mk (HB1.out.trans (hb.mono HB1.out.size))
  clear hb y0 y7
  go_wp2_with (fail)
  go_ret
  exact ⟨rfl, HB2.out⟩
set_option maxHeartbeats 3200000 in
set_option maxRecDepth 100000 in
theorem add_arg {w : World} {q : Nat} (now : Int) (x : S27) (hm : ¬ (mayL x = true ∧ 0 ≤ now)) (hf : ∀ W, Below w.heap.size w W → Calls Tryd.prog 23 #[.pointer (some ⟨q, 0, none⟩), .int .i64 x.f0.f0, .bool x.f2] W (LiveAny W)) :
    Calls Tryd.prog 10 #[.pointer (some ⟨q, 0, none⟩), .int .i64 now, .agg (#[.int .i64 x.f0.f0, .string x.f0.f1, .string x.f0.f2, .string x.f0.f3, .bool x.f0.f4, .int .i64 x.f0.f5, .int .i64 x.f1, .bool x.f2, .int .i64 x.f3, .int .i64 x.f4, .int .i64 x.f5, .int .i64 x.f6])] w fun e w' => e = .returned (.int .i64 1) ∧ Below w.heap.size w w' := by
  have HF := Aside0.mk hf
  have CK := Aside0.mk (check_walk x.f0)
  by_cases hp : mayP x.f0 = true
  · simp only [if_pos hp] at CK
    have hmin : ∀ W, (Builtin.min_ #[3, 3, 3, 3, 3, 3] 3 #[.int .i64 x.f1, .int .i64 x.f3, .int .i64 x.f4, .int .i64 x.f5, .int .i64 x.f6, .int .i64 now]).run Tryd.prog W = .ok (.int .i64 (m2 (m2 (m2 (m2 (m2 x.f1 x.f3) x.f4) x.f5) x.f6) now)) W := fun W => run_min6 W _ _ _ _ _ _ _ _
    obtain ⟨m, hmm⟩ : ∃ m, m2 (m2 (m2 (m2 (m2 x.f1 x.f3) x.f4) x.f5) x.f6) now = m := ⟨_, rfl⟩
    have hneg : decide (m < 0) = true := decide_eq_true (by
      rw [← hmm]
      have hm' : ¬ (0 ≤ x.f1 ∧ 0 ≤ x.f3 ∧ 0 ≤ x.f4 ∧ 0 ≤ x.f5 ∧ 0 ≤ x.f6 ∧ 0 ≤ now) := fun h => hm ⟨by simp only [mayL, Bool.and_eq_true, decide_eq_true_eq]; exact ⟨⟨⟨⟨⟨hp, h.1⟩, h.2.1⟩, h.2.2.1⟩, h.2.2.2.1⟩, h.2.2.2.2.1⟩, h.2.2.2.2.2⟩
      simp only [m2_neg]
      omega)
    rw [hmm] at hmin
    clear hf hm hp hmm
    go_enter Tryd.func10, Tryd.ntmps10
    go_wp2_with (first | ((with_reducible refine gate_dst (N := 5) rfl ?_); refine box_event ?hg (N := 5) ?hd (cs := #[.int .i64 x.f0.f0, .string x.f0.f1, .string x.f0.f2, .string x.f0.f3, .bool x.f0.f4, .int .i64 x.f0.f5, .int .i64 x.f1, .bool x.f2, .int .i64 x.f3, .int .i64 x.f4, .int .i64 x.f5, .int .i64 x.f6]) (t := 27) ?hr ?_; (case hd => rfl); (case hg => rfl); (case hr => first | (go_simp; done) | (go_simp; rfl)); intro q5 hq w1 hbox hb; have BKq5 := Aside0.mk hbox; have HQq5 := Aside0.mk (show w.heap.size ≤ q5 from by rw [hq]; exact Nat.le_refl _); have HB1 := Aside0.mk hb; clear hbox hb hq; have y0 : w1.cell? ⟨q5, 0, none⟩ = some (.int .i64 x.f0.f0) := (blk_cell BKq5.out 0).trans rfl; have y7 : w1.cell? ⟨q5, 7, none⟩ = some (.bool x.f2) := (blk_cell BKq5.out 7).trans rfl))
    refine (HF.out w1 HB1.out).mono ?_
    rintro e w2 ⟨⟨u, v, rfl⟩, hb⟩
    have HB2 := Aside0.mk (HB1.out.trans (hb.mono HB1.out.size))
    have BKq5 := Aside0.mk (blk_below BKq5.out hb)
    have LD := Aside0.mk (load25b BKq5.out)
    clear hb y0 y7
    go_wp2_with (first | ((with_reducible refine gate_dst (N := 26) rfl ?_); refine Kd.event_run (v := .agg (#[.int .i64 x.f0.f0, .string x.f0.f1, .string x.f0.f2, .string x.f0.f3, .bool x.f0.f4, .int .i64 x.f0.f5])) (w1 := w2) ?hg (load_runA 25 (.tmp 25) ⟨q5, 0, none⟩ (#[.int .i64 x.f0.f0, .string x.f0.f1, .string x.f0.f2, .string x.f0.f3, .bool x.f0.f4, .int .i64 x.f0.f5]) ?ho ?hx LD.out) ?_; (case hg => rfl); (case ho => rfl); (case hx => rfl)))
    refine (CK.out w2).mono ?_
    rintro e w3 ⟨rfl, hb⟩
    have HB3 := Aside0.mk (HB2.out.trans (hb.mono HB2.out.size))
    have BKq5 := Aside0.mk (blk_below BKq5.out hb)
    have y6 : w3.cell? ⟨q5, 6, none⟩ = some (.int .i64 x.f1) := (blk_cell BKq5.out 6).trans rfl
    have y8 : w3.cell? ⟨q5, 8, none⟩ = some (.int .i64 x.f3) := (blk_cell BKq5.out 8).trans rfl
    have y9 : w3.cell? ⟨q5, 9, none⟩ = some (.int .i64 x.f4) := (blk_cell BKq5.out 9).trans rfl
    have y10 : w3.cell? ⟨q5, 10, none⟩ = some (.int .i64 x.f5) := (blk_cell BKq5.out 10).trans rfl
    have y11 : w3.cell? ⟨q5, 11, none⟩ = some (.int .i64 x.f6) := (blk_cell BKq5.out 11).trans rfl
    clear hb
    go_wp2_with (fail)
    go_ret
    exact ⟨rfl, HB3.out⟩
  · simp only [if_neg hp] at CK
    clear hf hm hp
    go_enter Tryd.func10, Tryd.ntmps10
    go_wp2_with (first | ((with_reducible refine gate_dst (N := 5) rfl ?_); refine box_event ?hg (N := 5) ?hd (cs := #[.int .i64 x.f0.f0, .string x.f0.f1, .string x.f0.f2, .string x.f0.f3, .bool x.f0.f4, .int .i64 x.f0.f5, .int .i64 x.f1, .bool x.f2, .int .i64 x.f3, .int .i64 x.f4, .int .i64 x.f5, .int .i64 x.f6]) (t := 27) ?hr ?_; (case hd => rfl); (case hg => rfl); (case hr => first | (go_simp; done) | (go_simp; rfl)); intro q5 hq w1 hbox hb; have BKq5 := Aside0.mk hbox; have HQq5 := Aside0.mk (show w.heap.size ≤ q5 from by rw [hq]; exact Nat.le_refl _); have HB1 := Aside0.mk hb; clear hbox hb hq; have y0 : w1.cell? ⟨q5, 0, none⟩ = some (.int .i64 x.f0.f0) := (blk_cell BKq5.out 0).trans rfl; have y7 : w1.cell? ⟨q5, 7, none⟩ = some (.bool x.f2) := (blk_cell BKq5.out 7).trans rfl))
    refine (HF.out w1 HB1.out).mono ?_
    rintro e w2 ⟨⟨u, v, rfl⟩, hb⟩
    have HB2 := Aside0.mk (HB1.out.trans (hb.mono HB1.out.size))
    have BKq5 := Aside0.mk (blk_below BKq5.out hb)
    have LD := Aside0.mk (load25b BKq5.out)
    clear hb y0 y7
    go_wp2_with (first | ((with_reducible refine gate_dst (N := 26) rfl ?_); refine Kd.event_run (v := .agg (#[.int .i64 x.f0.f0, .string x.f0.f1, .string x.f0.f2, .string x.f0.f3, .bool x.f0.f4, .int .i64 x.f0.f5])) (w1 := w2) ?hg (load_runA 25 (.tmp 25) ⟨q5, 0, none⟩ (#[.int .i64 x.f0.f0, .string x.f0.f1, .string x.f0.f2, .string x.f0.f3, .bool x.f0.f4, .int .i64 x.f0.f5]) ?ho ?hx LD.out) ?_; (case hg => rfl); (case ho => rfl); (case hx => rfl)))
    refine (CK.out w2).mono ?_
    rintro e w3 ⟨rfl, hb⟩
    have HB3 := Aside0.mk (HB2.out.trans (hb.mono HB2.out.size))
    clear hb
    go_wp2_with (fail)
    go_ret
    exact ⟨rfl, HB3.out⟩
theorem min_pos {x : S27} {now : Int} (hm : mayL x = true) (hn : 0 ≤ now) : decide (m2 (m2 (m2 (m2 (m2 x.f1 x.f3) x.f4) x.f5) x.f6) now < 0) = false := by
  simp only [mayL, Bool.and_eq_true, decide_eq_true_eq] at hm
  obtain ⟨⟨⟨⟨⟨_, a1⟩, a3⟩, a4⟩, a5⟩, a6⟩ := hm
  apply decide_eq_false
  simp only [m2_neg]
  omega
set_option maxHeartbeats 3200000 in
set_option maxRecDepth 100000 in
theorem add_there {w : World} {q P : Nat} (now : Int) (x : S27) (hm : mayL x = true) (hn : 0 ≤ now) (hf : ∀ W, Below w.heap.size w W → Calls Tryd.prog 23 #[.pointer (some ⟨q, 0, none⟩), .int .i64 x.f0.f0, .bool x.f2] W (FindYes P W)) :
    Calls Tryd.prog 10 #[.pointer (some ⟨q, 0, none⟩), .int .i64 now, .agg (#[.int .i64 x.f0.f0, .string x.f0.f1, .string x.f0.f2, .string x.f0.f3, .bool x.f0.f4, .int .i64 x.f0.f5, .int .i64 x.f1, .bool x.f2, .int .i64 x.f3, .int .i64 x.f4, .int .i64 x.f5, .int .i64 x.f6])] w fun e w' => e = .returned (.int .i64 9) ∧ Below w.heap.size w w' := by
  have FW := Aside0.mk hf
  have CK := Aside0.mk (check_walk x.f0)
  have hpp : mayP x.f0 = true := by simp only [mayL, Bool.and_eq_true] at hm; exact hm.1.1.1.1.1
  simp only [if_pos hpp] at CK
  have hmin : ∀ W, (Builtin.min_ #[3, 3, 3, 3, 3, 3] 3 #[.int .i64 x.f1, .int .i64 x.f3, .int .i64 x.f4, .int .i64 x.f5, .int .i64 x.f6, .int .i64 now]).run Tryd.prog W = .ok (.int .i64 (m2 (m2 (m2 (m2 (m2 x.f1 x.f3) x.f4) x.f5) x.f6) now)) W := fun W => run_min6 W _ _ _ _ _ _ _ _
  have hneg := min_pos hm hn
  obtain ⟨m, hmm⟩ : ∃ m, m2 (m2 (m2 (m2 (m2 x.f1 x.f3) x.f4) x.f5) x.f6) now = m := ⟨_, rfl⟩
  rw [hmm] at hmin hneg
  clear hf hm hn hpp hmm
  go_enter Tryd.func10, Tryd.ntmps10
  go_wp2_with (first | ((with_reducible refine gate_dst (N := 5) rfl ?_); refine box_event ?hg (N := 5) ?hd (cs := #[.int .i64 x.f0.f0, .string x.f0.f1, .string x.f0.f2, .string x.f0.f3, .bool x.f0.f4, .int .i64 x.f0.f5, .int .i64 x.f1, .bool x.f2, .int .i64 x.f3, .int .i64 x.f4, .int .i64 x.f5, .int .i64 x.f6]) (t := 27) ?hr ?_; (case hd => rfl); (case hg => rfl); (case hr => first | (go_simp; done) | (go_simp; rfl)); intro q5 hq w1 hbox hb; have BKq5 := Aside0.mk hbox; have HQq5 := Aside0.mk (show w.heap.size ≤ q5 from by rw [hq]; exact Nat.le_refl _); have HB1 := Aside0.mk hb; clear hbox hb hq; have y0 : w1.cell? ⟨q5, 0, none⟩ = some (.int .i64 x.f0.f0) := (blk_cell BKq5.out 0).trans rfl; have y7 : w1.cell? ⟨q5, 7, none⟩ = some (.bool x.f2) := (blk_cell BKq5.out 7).trans rfl))
  refine (FW.out w1 HB1.out).mono ?_
  rintro e w2 ⟨rfl, hb⟩
  have HB2 := Aside0.mk (HB1.out.trans (hb.mono HB1.out.size))
  have BKq5 := Aside0.mk (blk_below BKq5.out hb)
  have LD := Aside0.mk (load25b BKq5.out)
  clear hb y0 y7
  go_wp2_with (first | ((with_reducible refine gate_dst (N := 26) rfl ?_); refine Kd.event_run (v := .agg (#[.int .i64 x.f0.f0, .string x.f0.f1, .string x.f0.f2, .string x.f0.f3, .bool x.f0.f4, .int .i64 x.f0.f5])) (w1 := w2) ?hg (load_runA 25 (.tmp 25) ⟨q5, 0, none⟩ (#[.int .i64 x.f0.f0, .string x.f0.f1, .string x.f0.f2, .string x.f0.f3, .bool x.f0.f4, .int .i64 x.f0.f5]) ?ho ?hx LD.out) ?_; (case hg => rfl); (case ho => rfl); (case hx => rfl)))
  refine (CK.out w2).mono ?_
  rintro e w3 ⟨rfl, hb⟩
  have HB3 := Aside0.mk (HB2.out.trans (hb.mono HB2.out.size))
  have BKq5 := Aside0.mk (blk_below BKq5.out hb)
  have y6 : w3.cell? ⟨q5, 6, none⟩ = some (.int .i64 x.f1) := (blk_cell BKq5.out 6).trans rfl
  have y8 : w3.cell? ⟨q5, 8, none⟩ = some (.int .i64 x.f3) := (blk_cell BKq5.out 8).trans rfl
  have y9 : w3.cell? ⟨q5, 9, none⟩ = some (.int .i64 x.f4) := (blk_cell BKq5.out 9).trans rfl
  have y10 : w3.cell? ⟨q5, 10, none⟩ = some (.int .i64 x.f5) := (blk_cell BKq5.out 10).trans rfl
  have y11 : w3.cell? ⟨q5, 11, none⟩ = some (.int .i64 x.f6) := (blk_cell BKq5.out 11).trans rfl
  clear hb
  go_wp2_with (fail)
  go_ret
  exact ⟨rfl, HB3.out⟩
set_option maxHeartbeats 3200000 in
set_option maxRecDepth 100000 in
theorem add_full {w : World} {q n c : Nat} {A : Option Addr} {cc : Int} (now : Int) (x : S27) (hm : mayL x = true) (hn : 0 ≤ now) (hq : ∀ W, Below w.heap.size w W → W.cell? ⟨q, 0, none⟩ = some (.slice A n c)) (h32 : 32 ≤ n) (hf : ∀ W, Below w.heap.size w W → Calls Tryd.prog 23 #[.pointer (some ⟨q, 0, none⟩), .int .i64 x.f0.f0, .bool x.f2] W (FindNo cc W)) :
    Calls Tryd.prog 10 #[.pointer (some ⟨q, 0, none⟩), .int .i64 now, .agg (#[.int .i64 x.f0.f0, .string x.f0.f1, .string x.f0.f2, .string x.f0.f3, .bool x.f0.f4, .int .i64 x.f0.f5, .int .i64 x.f1, .bool x.f2, .int .i64 x.f3, .int .i64 x.f4, .int .i64 x.f5, .int .i64 x.f6])] w fun e w' => e = .returned (.int .i64 7) ∧ Below w.heap.size w w' := by
  have FW := Aside0.mk hf
  have HQ := Aside0.mk hq
  have hge : decide ((32 : Int) ≤ (n : Int)) = true := decide_eq_true (by omega)
  have hgeN : decide (32 ≤ n) = true := decide_eq_true h32
  have CK := Aside0.mk (check_walk x.f0)
  have hpp : mayP x.f0 = true := by simp only [mayL, Bool.and_eq_true] at hm; exact hm.1.1.1.1.1
  simp only [if_pos hpp] at CK
  have hmin : ∀ W, (Builtin.min_ #[3, 3, 3, 3, 3, 3] 3 #[.int .i64 x.f1, .int .i64 x.f3, .int .i64 x.f4, .int .i64 x.f5, .int .i64 x.f6, .int .i64 now]).run Tryd.prog W = .ok (.int .i64 (m2 (m2 (m2 (m2 (m2 x.f1 x.f3) x.f4) x.f5) x.f6) now)) W := fun W => run_min6 W _ _ _ _ _ _ _ _
  have hneg := min_pos hm hn
  obtain ⟨m, hmm⟩ : ∃ m, m2 (m2 (m2 (m2 (m2 x.f1 x.f3) x.f4) x.f5) x.f6) now = m := ⟨_, rfl⟩
  rw [hmm] at hmin hneg
  clear hf hm hn hpp hmm h32 hq
  go_enter Tryd.func10, Tryd.ntmps10
  go_wp2_with (first | ((with_reducible refine gate_dst (N := 5) rfl ?_); refine box_event ?hg (N := 5) ?hd (cs := #[.int .i64 x.f0.f0, .string x.f0.f1, .string x.f0.f2, .string x.f0.f3, .bool x.f0.f4, .int .i64 x.f0.f5, .int .i64 x.f1, .bool x.f2, .int .i64 x.f3, .int .i64 x.f4, .int .i64 x.f5, .int .i64 x.f6]) (t := 27) ?hr ?_; (case hd => rfl); (case hg => rfl); (case hr => first | (go_simp; done) | (go_simp; rfl)); intro q5 hq w1 hbox hb; have BKq5 := Aside0.mk hbox; have HQq5 := Aside0.mk (show w.heap.size ≤ q5 from by rw [hq]; exact Nat.le_refl _); have HB1 := Aside0.mk hb; clear hbox hb hq; have y0 : w1.cell? ⟨q5, 0, none⟩ = some (.int .i64 x.f0.f0) := (blk_cell BKq5.out 0).trans rfl; have y7 : w1.cell? ⟨q5, 7, none⟩ = some (.bool x.f2) := (blk_cell BKq5.out 7).trans rfl))
  refine (FW.out w1 HB1.out).mono ?_
  rintro e w2 ⟨⟨v, rfl, k, s, rfl, _⟩, hb⟩
  have HB2 := Aside0.mk (HB1.out.trans (hb.mono HB1.out.size))
  have BKq5 := Aside0.mk (blk_below BKq5.out hb)
  have LD := Aside0.mk (load25b BKq5.out)
  clear hb y0 y7
  go_wp2_with (first | ((with_reducible refine gate_dst (N := 26) rfl ?_); refine Kd.event_run (v := .agg (#[.int .i64 x.f0.f0, .string x.f0.f1, .string x.f0.f2, .string x.f0.f3, .bool x.f0.f4, .int .i64 x.f0.f5])) (w1 := w2) ?hg (load_runA 25 (.tmp 25) ⟨q5, 0, none⟩ (#[.int .i64 x.f0.f0, .string x.f0.f1, .string x.f0.f2, .string x.f0.f3, .bool x.f0.f4, .int .i64 x.f0.f5]) ?ho ?hx LD.out) ?_; (case hg => rfl); (case ho => rfl); (case hx => rfl)))
  refine (CK.out w2).mono ?_
  rintro e w3 ⟨rfl, hb⟩
  have HB3 := Aside0.mk (HB2.out.trans (hb.mono HB2.out.size))
  have BKq5 := Aside0.mk (blk_below BKq5.out hb)
  have y6 : w3.cell? ⟨q5, 6, none⟩ = some (.int .i64 x.f1) := (blk_cell BKq5.out 6).trans rfl
  have y8 : w3.cell? ⟨q5, 8, none⟩ = some (.int .i64 x.f3) := (blk_cell BKq5.out 8).trans rfl
  have y9 : w3.cell? ⟨q5, 9, none⟩ = some (.int .i64 x.f4) := (blk_cell BKq5.out 9).trans rfl
  have y10 : w3.cell? ⟨q5, 10, none⟩ = some (.int .i64 x.f5) := (blk_cell BKq5.out 10).trans rfl
  have y11 : w3.cell? ⟨q5, 11, none⟩ = some (.int .i64 x.f6) := (blk_cell BKq5.out 11).trans rfl
  clear hb
  have cq := HQ.out w3 HB3.out
  go_wp2_with (fail)
  go_ret
  exact ⟨rfl, HB3.out⟩
theorem info61 : (Tryd.prog.info? 61).map (fun i => (i.zero, i.size, i.bytes)) = some (some (.pointer none), 1, 8) := by kernel_rfl
theorem run_append_ptr {W : World} {base p : Nat} {v : Value} {ps : List Pl} (x : Pl) (hx : x.p = p) (hown : W.ownsRow base 61 1 v ps.length (ps.map Pl.ptr)) (ad : Addr) (hnew : W.cell? ad = some (.pointer (some ⟨p, 0, none⟩))) (hl : ps.length ≤ 1000) (hbase : base ≤ W.heap.size) :
    ∃ v' w', (Builtin.append_ #[58, 58] 58 #[v, .slice (some ad) 1 1]).run Tryd.prog W = .ok v' w' ∧ w'.ownsRow base 61 1 v' (ps.length + 1) (ps.map Pl.ptr ++ [x.ptr]) ∧ W.grownBy w' v.ownBlock := by
  obtain ⟨i, hi, hz, hsz, hb⟩ := info_parts info61
  obtain ⟨v', w', h1, h2, h3, _⟩ := run_append_own_at (P := Tryd.prog) W base 58 58 61 i (.pointer none) 1 8 Tryd.underlying58 hi hz hsz hb rfl (by decide) v ps.length (ps.map Pl.ptr) hown ad 1 1 [x.ptr] rfl (fun j u hj => by
    cases j with
    | zero =>
      obtain rfl : x.ptr = u := by simpa using hj
      rw [show ad.add 0 = ad from by cases ad; simp [Addr.add]]
      rw [hnew]
      unfold Pl.ptr
      rw [hx]
    | succ j => simp at hj) (fun u hu => by
    obtain rfl : u = x.ptr := by simpa using hu
    rfl) (by unfold maxLen; omega) (by omega) hbase
  exact ⟨v', w', h1, h2, h3⟩
theorem append_run {o : Oper} {a : Act} {W w' : World} {v u v' : Value} (s x : Operand) (ho : o.op = .call { callee := .builtin .append, args := #[s, x], argTypes := #[58, 58] }) (ht : o.type = 58) (hs : a.eval s = v) (hx : a.eval x = u) (hr : (Builtin.append_ #[58, 58] 58 #[v, u]).run Tryd.prog W = .ok v' w') :
    (execOp a.eval o).run Tryd.prog W = .ok (.value v') w' := by
  unfold execOp
  simp only [ho, resolve, invoke, builtin, Sem.run_bind, Sem.run_pure, Result.andThen_ok, List.map_toArray, List.map_cons, List.map_nil, hs, hx, ht, hr]
theorem load27b {W : World} {q : Nat} {x : S27} {t : TypeId} (h : W.heap[q]? = some (.cells (#[.int .i64 x.f0.f0, .string x.f0.f1, .string x.f0.f2, .string x.f0.f3, .bool x.f0.f4, .int .i64 x.f0.f5, .int .i64 x.f1, .bool x.f2, .int .i64 x.f3, .int .i64 x.f4, .int .i64 x.f5, .int .i64 x.f6]) t (0, 0))) : (loadVar 27 ⟨q, 0, none⟩).run Tryd.prog W = .ok (.agg (#[.int .i64 x.f0.f0, .string x.f0.f1, .string x.f0.f2, .string x.f0.f3, .bool x.f0.f4, .int .i64 x.f0.f5, .int .i64 x.f1, .bool x.f2, .int .i64 x.f3, .int .i64 x.f4, .int .i64 x.f5, .int .i64 x.f6])) W := by
  refine load_blk h (enc27 x) (fun j v hv => ?_) _ Tryd.underlying27 rfl isz27
  unfold enc27 at hv
  match j with
  | 0 | 1 | 2 | 3 | 4 | 5 | 6 | 7 | 8 | 9 | 10 | 11 => exact hv
  | j + 12 => simp at hv
theorem add_push {w w4 w6 w7 : World} {base q c n g a p L : Nat} {A : Option Addr} {ps : List Pl} {es : List En} {x : S27} {now : Int} {v1 : Value} (hp : ∀ W, Below w.heap.size w W → SadP W base q (.slice A n c) ps es) (hb4 : Below w.heap.size w w4) (hb6 : Below w4.heap.size w4 w6) (hg : w6.grownBy w7 (Value.slice A n c).ownBlock) (hr : w7.ownsRow base 61 1 v1 (ps.length + 1) (ps.map Pl.ptr ++ [(⟨p, g, .slice (some ⟨a, 0, none⟩) L L⟩ : Pl).ptr]))
    (hw : Win.WinAt w4 g a x.f0.f4 0 (List.replicate L false)) (hbp : w7.heap[p]? = some (.cells (#[.int .i64 x.f0.f0, .string x.f0.f1, .string x.f0.f2, .string x.f0.f3, .bool x.f0.f4, .int .i64 x.f0.f5, .int .i64 x.f1, .bool x.f2, .int .i64 x.f3, .int .i64 x.f4, .int .i64 x.f5, .int .i64 x.f6, .int .i64 now, .int .i64 0, .int .u64 0, .pointer (some ⟨g, 0, none⟩)]) 71 (0, 0))) (hq : w7.heap[q]? = some (.cells #[.slice A n c] 60 (0, 0))) (hpn : w4.heap.size = p) (hga : w.heap.size ≤ g ∧ w.heap.size ≤ a ∧ g ≠ q ∧ a ≠ q) (hL : x.f0.f5 = (L : Int)) :
    SadP (w7.setCell ⟨q, 0, none⟩ v1) base q v1 (ps ++ [⟨p, g, .slice (some ⟨a, 0, none⟩) L L⟩]) (es ++ [newE x now]) ∧ Turn TP base w (w7.setCell ⟨q, 0, none⟩ v1) := by
  have h0 := hp w (Below.refl _ _)
  have h6 := hp w6 (hb4.trans (hb6.mono hb4.size))
  have hbase := h0.base_le
  have hs4 := hb4.size
  have hs6 := hb6.size
  have hs7 := hg.size
  have far : ∀ k, k ≠ q → (w7.setCell ⟨q, 0, none⟩ v1).heap[k]? = w7.heap[k]? := fun k hk => Below.heap_setCell w7 _ _ k hk
  have hsz : (w7.setCell ⟨q, 0, none⟩ v1).heap.size = w7.heap.size := by simp [World.setCell]
  have hrow : ∀ k, (Value.slice A n c).ownBlock = some k → k < w.heap.size := fun k hk => own_lt h0.row k hk
  have hqlt := blk_lt h0.blk
  have keep : ∀ k, k < w4.heap.size → w.heap.size ≤ k → k ≠ q → (w7.setCell ⟨q, 0, none⟩ v1).heap[k]? = w4.heap[k]? := fun k h1 h2 h3 =>
    (far k h3).trans ((hg.block k (by omega) (fun e => by have := hrow k e.symm; omega)).trans (hb6.block k h1))
  have hgl := blk_lt hw.hs
  have hal := blk_lt hw.ha
  have hws : (List.replicate L false).length = L := List.length_replicate
  refine Tab.push h0 TP_ok WnPg_ok ⟨p, g, .slice (some ⟨a, 0, none⟩) L L⟩ (newE x now) (blk_put hq 0 v1 rfl) (own_setCell hr (own_ne hr hq (by decide)) v1) ⟨(far p (by omega)).trans hbp, ⟨a, ?_, ?_⟩, by show base ≤ p; omega, by show base ≤ g; omega, fun k hk => by obtain rfl : a = k := Option.some.inj hk; omega⟩ (by show w.heap.size ≤ p; omega) hga.1 (fun k hk => by obtain rfl : a = k := Option.some.inj hk; exact hga.2.1)
    (hg.os.trans (hb6.os.trans hb4.os)) (hg.tape.trans (hb6.tape.trans hb4.tape)) (hg.output.trans (hb6.output.trans hb4.output)) (by rw [hsz]; omega) (fun k h1 h2 h3 => (far k h2).trans ((hg.block k (by omega) (fun e => h3 e.symm)).trans ((hb6.block k (by omega)).trans (hb4.block k h1))))
  · show Value.slice (some ⟨a, 0, none⟩) L L = .slice (some ⟨a, 0, none⟩) (List.replicate x.f0.f5.toNat false).length (List.replicate x.f0.f5.toNat false).length
    rw [hL, Int.toNat_natCast, hws]
  · show Win.WinAt _ g a x.f0.f4 0 (List.replicate x.f0.f5.toNat false)
    rw [hL, Int.toNat_natCast]
    exact ⟨(keep g hgl hga.1 hga.2.2.1).trans hw.hs, (keep a hal hga.2.1 hga.2.2.2).trans hw.ha, hw.ne⟩
set_option maxHeartbeats 3200000 in
set_option maxRecDepth 100000 in
theorem add_ok {w : World} {base q c : Nat} {A : Option Addr} {ps : List Pl} {es : List En} (hp : SadP w base q (.slice A es.length c) ps es) (hl : es.length < 32) (now : Int) (x : S27) (hm : mayL x = true) (hn : 0 ≤ now) (hf : ∀ W, Below w.heap.size w W → Calls Tryd.prog 23 #[.pointer (some ⟨q, 0, none⟩), .int .i64 x.f0.f0, .bool x.f2] W (FindNo 6 W)) :
    Calls Tryd.prog 10 #[.pointer (some ⟨q, 0, none⟩), .int .i64 now, .agg (#[.int .i64 x.f0.f0, .string x.f0.f1, .string x.f0.f2, .string x.f0.f3, .bool x.f0.f4, .int .i64 x.f0.f5, .int .i64 x.f1, .bool x.f2, .int .i64 x.f3, .int .i64 x.f4, .int .i64 x.f5, .int .i64 x.f6])] w (PgQ base q (es ++ [newE x now]) (.int .i64 0) w) := by
  have FW := Aside0.mk hf
  have HP := Aside0.mk fun (W : World) (hb : Below w.heap.size w W) => hp.below hb
  have HQ := Aside0.mk fun (W : World) (hb : Below w.heap.size w W) => (show W.cell? ⟨q, 0, none⟩ = some (.slice A es.length c) from (blk_cell (hp.below hb).blk 0).trans rfl)
  have HPL := Aside0.mk (show ps.length ≤ 1000 from by rw [hp.len]; omega)
  have hge : decide ((32 : Int) ≤ (es.length : Int)) = false := decide_eq_false (by omega)
  have hgeN : decide (32 ≤ es.length) = false := decide_eq_false (by omega)
  have CK := Aside0.mk (check_walk x.f0)
  have hpp : mayP x.f0 = true := by simp only [mayL, Bool.and_eq_true] at hm; exact hm.1.1.1.1.1
  simp only [if_pos hpp] at CK
  have hmin : ∀ W, (Builtin.min_ #[3, 3, 3, 3, 3, 3] 3 #[.int .i64 x.f1, .int .i64 x.f3, .int .i64 x.f4, .int .i64 x.f5, .int .i64 x.f6, .int .i64 now]).run Tryd.prog W = .ok (.int .i64 (m2 (m2 (m2 (m2 (m2 x.f1 x.f3) x.f4) x.f5) x.f6) now)) W := fun W => run_min6 W _ _ _ _ _ _ _ _
  have hneg := min_pos hm hn
  obtain ⟨m, hmm⟩ : ∃ m, m2 (m2 (m2 (m2 (m2 x.f1 x.f3) x.f4) x.f5) x.f6) now = m := ⟨_, rfl⟩
  rw [hmm] at hmin hneg
  have hwin : 64 ≤ x.f0.f5 ∧ x.f0.f5 ≤ 1024 := by simp only [mayP, Bool.and_eq_true, decide_eq_true_eq] at hpp; omega
  obtain ⟨L, hL⟩ : ∃ L : Nat, x.f0.f5 = (L : Int) := ⟨x.f0.f5.toNat, by omega⟩
  have NW := Aside0.mk fun W => Win.new_ok L (by omega) (by omega) x.f0.f4 W
  have HL := Aside0.mk hL
  obtain ⟨n, hn'⟩ : ∃ n, es.length = n := ⟨_, rfl⟩
  have HN := Aside0.mk hn'
  rw [hn'] at HQ hge hgeN HP
  have HBL := Aside0.mk hp.base_le
  clear hf hm hn hpp hmm hl hp hn' hwin hL
  go_enter Tryd.func10, Tryd.ntmps10
  go_wp2_with (first | ((with_reducible refine gate_dst (N := 5) rfl ?_); refine box_event ?hg (N := 5) ?hd (cs := #[.int .i64 x.f0.f0, .string x.f0.f1, .string x.f0.f2, .string x.f0.f3, .bool x.f0.f4, .int .i64 x.f0.f5, .int .i64 x.f1, .bool x.f2, .int .i64 x.f3, .int .i64 x.f4, .int .i64 x.f5, .int .i64 x.f6]) (t := 27) ?hr ?_; (case hd => rfl); (case hg => rfl); (case hr => first | (go_simp; done) | (go_simp; rfl)); intro q5 hq w1 hbox hb; have BKq5 := Aside0.mk hbox; have HQq5 := Aside0.mk (show w.heap.size ≤ q5 from by rw [hq]; exact Nat.le_refl _); have HB1 := Aside0.mk hb; clear hbox hb hq; have y0 : w1.cell? ⟨q5, 0, none⟩ = some (.int .i64 x.f0.f0) := (blk_cell BKq5.out 0).trans rfl; have y7 : w1.cell? ⟨q5, 7, none⟩ = some (.bool x.f2) := (blk_cell BKq5.out 7).trans rfl))
  refine (FW.out w1 HB1.out).mono ?_
  rintro e w2 ⟨⟨v, rfl, k, s, rfl, _⟩, hb⟩
  have HB2 := Aside0.mk (HB1.out.trans (hb.mono HB1.out.size))
  have BKq5 := Aside0.mk (blk_below BKq5.out hb)
  have LD := Aside0.mk (load25b BKq5.out)
  clear hb y0 y7
  go_wp2_with (first | ((with_reducible refine gate_dst (N := 26) rfl ?_); refine Kd.event_run (v := .agg (#[.int .i64 x.f0.f0, .string x.f0.f1, .string x.f0.f2, .string x.f0.f3, .bool x.f0.f4, .int .i64 x.f0.f5])) (w1 := w2) ?hg (load_runA 25 (.tmp 25) ⟨q5, 0, none⟩ (#[.int .i64 x.f0.f0, .string x.f0.f1, .string x.f0.f2, .string x.f0.f3, .bool x.f0.f4, .int .i64 x.f0.f5]) ?ho ?hx LD.out) ?_; (case hg => rfl); (case ho => rfl); (case hx => rfl)))
  refine (CK.out w2).mono ?_
  rintro e w3 ⟨rfl, hb⟩
  have HB3 := Aside0.mk (HB2.out.trans (hb.mono HB2.out.size))
  have BKq5 := Aside0.mk (blk_below BKq5.out hb)
  have y0 : w3.cell? ⟨q5, 0, none⟩ = some (.int .i64 x.f0.f0) := (blk_cell BKq5.out 0).trans rfl
  have y4 : w3.cell? ⟨q5, 4, none⟩ = some (.bool x.f0.f4) := (blk_cell BKq5.out 4).trans rfl
  have y6 : w3.cell? ⟨q5, 6, none⟩ = some (.int .i64 x.f1) := (blk_cell BKq5.out 6).trans rfl
  have y7 : w3.cell? ⟨q5, 7, none⟩ = some (.bool x.f2) := (blk_cell BKq5.out 7).trans rfl
  have y8 : w3.cell? ⟨q5, 8, none⟩ = some (.int .i64 x.f3) := (blk_cell BKq5.out 8).trans rfl
  have y9 : w3.cell? ⟨q5, 9, none⟩ = some (.int .i64 x.f4) := (blk_cell BKq5.out 9).trans rfl
  have y10 : w3.cell? ⟨q5, 10, none⟩ = some (.int .i64 x.f5) := (blk_cell BKq5.out 10).trans rfl
  have y11 : w3.cell? ⟨q5, 11, none⟩ = some (.int .i64 x.f6) := (blk_cell BKq5.out 11).trans rfl
  have y5 : w3.cell? ⟨q5, 5, none⟩ = some (.int .i64 (L : Int)) := by rw [← HL.out]; exact (blk_cell BKq5.out 5).trans rfl
  clear hb
  have cq := HQ.out w3 HB3.out
  go_wp2_with (fail)
  refine (NW.out w3).mono ?_
  rintro e w4 ⟨rfl, hwa, hb, hsz⟩
  have HB4 := Aside0.mk (HB3.out.trans (hb.mono HB3.out.size))
  have BKq5 := Aside0.mk (blk_below BKq5.out hb)
  have BQ4 := Aside0.mk (show w4.heap[q]? = some (.cells #[.slice A n c] 60 (0, 0)) from (HP.out w4 HB4.out).blk)
  have HWA := Aside0.mk hwa
  have HW3 := Aside0.mk hb
  obtain ⟨g, hg⟩ : ∃ g, w3.heap.size + 1 = g := ⟨_, rfl⟩
  obtain ⟨a, ha⟩ : ∃ a, w3.heap.size = a := ⟨_, rfl⟩
  have HGA := Aside0.mk (show w.heap.size ≤ g ∧ w.heap.size ≤ a ∧ g ≠ q ∧ a ≠ q from by have h1 := HB3.out.size; have h2 := blk_lt (HP.out w (Below.refl _ _)).blk; omega)
  rw [hg, ha] at HWA
  rw [hg]
  clear hb hsz hwa hg ha cq y5 y4 y0 y6 y8 y9 y10 y11 y7
  go_wp2_with (fail)
  refine start_ (n := 15) (S := fun W => W.heap[q]? = w4.heap[q]? ∧ W.heap[q5]? = w4.heap[q5]?) (ds := [14]) #[false, false, false, false, false, false, false, false, false, false, false, false, false, false, false] (by kernel_rfl) rfl rfl ⟨rfl, rfl⟩ (fun hHeld => ?_)
  refine pure_ (i := 0) (N := some 67) (v := ?_) (a' := ?_) #[true, false, false, false, false, false, false, false, false, false, false, false, false, false, false] rfl rfl (by kernel_rfl) (fun _ _ _ h => h) (Or.inl ⟨by rfl, ?_⟩) ?_ ?_
  rotate_left
  · intro w'
    go_simp
    with_reducible rfl
  rotate_left
  · simp only [Act.put, List.setIfInBounds_toArray, List.set_cons_zero, List.set_cons_succ]
    rfl
  refine pure_ (i := 1) (N := some 68) (v := ?_) (a' := ?_) #[true, true, false, false, false, false, false, false, false, false, false, false, false, false, false] rfl rfl (by kernel_rfl) (fun _ _ _ h => h) (Or.inl ⟨by rfl, ?_⟩) ?_ ?_
  rotate_left
  · intro w'
    go_simp
    with_reducible rfl
  rotate_left
  · simp only [Act.put, List.setIfInBounds_toArray, List.set_cons_zero, List.set_cons_succ]
    rfl
  refine pure_ (i := 2) (N := some 69) (v := ?_) (a' := ?_) #[true, true, true, false, false, false, false, false, false, false, false, false, false, false, false] rfl rfl (by kernel_rfl) (fun _ _ _ h => h) (Or.inl ⟨by rfl, ?_⟩) ?_ ?_
  rotate_left
  · intro w'
    go_simp
    with_reducible rfl
  rotate_left
  · simp only [Act.put, List.setIfInBounds_toArray, List.set_cons_zero, List.set_cons_succ]
    rfl
  refine pure_ (i := 3) (N := some 70) (v := ?_) (a' := ?_) #[true, true, true, true, false, false, false, false, false, false, false, false, false, false, false] rfl rfl (by kernel_rfl) (fun _ _ _ h => h) (Or.inl ⟨by rfl, ?_⟩) ?_ ?_
  rotate_left
  · intro w'
    go_simp
    with_reducible rfl
  rotate_left
  · simp only [Act.put, List.setIfInBounds_toArray, List.set_cons_zero, List.set_cons_succ]
    rfl
  refine take_ (i := 4) (N := some 71) (v := ?_) (a' := ?_) #[true, true, true, true, true, false, false, false, false, false, false, false, false, false, false] rfl rfl (by kernel_rfl) (fun _ _ _ h => h) (Or.inl ⟨by rfl, ?_⟩) hHeld ?_ ?_
  rotate_left
  · intro w' s0
    have cq : w'.cell? ⟨q, 0, none⟩ = some (.slice A n c) := (blk_cell (s0.1.trans BQ4.out) 0).trans rfl
    go_simp
    with_reducible rfl
  rotate_left
  · simp only [Act.put, List.setIfInBounds_toArray, List.set_cons_zero, List.set_cons_succ]
    rfl
  refine take_ (i := 5) (N := some 72) (v := ?_) (a' := ?_) #[true, true, true, true, true, true, false, false, false, false, false, false, false, false, false] rfl rfl (by kernel_rfl) (fun _ _ _ h => h) (Or.inl ⟨by rfl, ?_⟩) hHeld ?_ ?_
  rotate_left
  · intro w' s0
    have cq : w'.cell? ⟨q, 0, none⟩ = some (.slice A n c) := (blk_cell (s0.1.trans BQ4.out) 0).trans rfl
    refine load_runA 27 (.tmp 5) ⟨q5, 0, none⟩ (#[.int .i64 x.f0.f0, .string x.f0.f1, .string x.f0.f2, .string x.f0.f3, .bool x.f0.f4, .int .i64 x.f0.f5, .int .i64 x.f1, .bool x.f2, .int .i64 x.f3, .int .i64 x.f4, .int .i64 x.f5, .int .i64 x.f6]) ?_ ?_ (load27b (s0.2.trans BKq5.out))
    · rfl
    · rfl
  rotate_left
  · simp only [Act.put, List.setIfInBounds_toArray, List.set_cons_zero, List.set_cons_succ]
    rfl
  refine pure_ (i := 6) (N := some 73) (v := ?_) (a' := ?_) #[true, true, true, true, true, true, true, false, false, false, false, false, false, false, false] rfl rfl (by kernel_rfl) (fun _ _ _ h => h) (Or.inl ⟨by rfl, ?_⟩) ?_ ?_
  rotate_left
  · intro w'
    go_simp
    with_reducible rfl
  rotate_left
  · simp only [Act.put, List.setIfInBounds_toArray, List.set_cons_zero, List.set_cons_succ]
    rfl
  refine pure_ (i := 7) (N := some 74) (v := ?_) (a' := ?_) #[true, true, true, true, true, true, true, true, false, false, false, false, false, false, false] rfl rfl (by kernel_rfl) (fun _ _ _ h => h) (Or.inl ⟨by rfl, ?_⟩) ?_ ?_
  rotate_left
  · intro w'
    go_simp
    with_reducible rfl
  rotate_left
  · simp only [Act.put, List.setIfInBounds_toArray, List.set_cons_zero, List.set_cons_succ]
    rfl
  refine pure_ (i := 8) (N := some 75) (v := ?_) (a' := ?_) #[true, true, true, true, true, true, true, true, true, false, false, false, false, false, false] rfl rfl (by kernel_rfl) (fun _ _ _ h => h) (Or.inl ⟨by rfl, ?_⟩) ?_ ?_
  rotate_left
  · intro w'
    go_simp
    with_reducible rfl
  rotate_left
  · simp only [Act.put, List.setIfInBounds_toArray, List.set_cons_zero, List.set_cons_succ]
    rfl
  refine one_ (i := 9) (N := some 76) #[true, true, true, true, true, true, true, true, true, true, false, false, false, false, false] rfl rfl (by kernel_rfl) (by decide) (fun K hK => ?_)
  refine value_ (v := .pointer (some ⟨w4.heap.size, 0, none⟩)) (w1 := w4.drew.alloc (.cells (#[.int .i64 x.f0.f0, .string x.f0.f1, .string x.f0.f2, .string x.f0.f3, .bool x.f0.f4, .int .i64 x.f0.f5, .int .i64 x.f1, .bool x.f2, .int .i64 x.f3, .int .i64 x.f4, .int .i64 x.f5, .int .i64 x.f6, .int .i64 now, .int .i64 0, .int .u64 0, .pointer (some ⟨g, 0, none⟩)]) 71 (0, 0))) (by rfl) rfl ?_ ?_
  · first | (go_simp; done) | (go_simp; rfl)
  have BP := Aside0.mk (show (w4.drew.alloc (.cells (#[.int .i64 x.f0.f0, .string x.f0.f1, .string x.f0.f2, .string x.f0.f3, .bool x.f0.f4, .int .i64 x.f0.f5, .int .i64 x.f1, .bool x.f2, .int .i64 x.f3, .int .i64 x.f4, .int .i64 x.f5, .int .i64 x.f6, .int .i64 now, .int .i64 0, .int .u64 0, .pointer (some ⟨g, 0, none⟩)]) 71 (0, 0))).heap[w4.heap.size]? = some (.cells (#[.int .i64 x.f0.f0, .string x.f0.f1, .string x.f0.f2, .string x.f0.f3, .bool x.f0.f4, .int .i64 x.f0.f5, .int .i64 x.f1, .bool x.f2, .int .i64 x.f3, .int .i64 x.f4, .int .i64 x.f5, .int .i64 x.f6, .int .i64 now, .int .i64 0, .int .u64 0, .pointer (some ⟨g, 0, none⟩)]) 71 (0, 0)) from blk_new w4.drew _)
  refine hK.out _ _ ⟨(blk_alloc (blk_drew BQ4.out) _).trans BQ4.out.symm, (blk_alloc (blk_drew BKq5.out) _).trans BKq5.out.symm⟩ (fun hHeld => ?_)
  have HB5 := Aside0.mk (show Below w4.heap.size w4 (w4.drew.alloc (.cells (#[.int .i64 x.f0.f0, .string x.f0.f1, .string x.f0.f2, .string x.f0.f3, .bool x.f0.f4, .int .i64 x.f0.f5, .int .i64 x.f1, .bool x.f2, .int .i64 x.f3, .int .i64 x.f4, .int .i64 x.f5, .int .i64 x.f6, .int .i64 now, .int .i64 0, .int .u64 0, .pointer (some ⟨g, 0, none⟩)]) 71 (0, 0))) from below_alloc (below_drew (Below.refl _ _)) _)
  obtain ⟨w5, hw5⟩ : ∃ W, w4.drew.alloc (.cells (#[.int .i64 x.f0.f0, .string x.f0.f1, .string x.f0.f2, .string x.f0.f3, .bool x.f0.f4, .int .i64 x.f0.f5, .int .i64 x.f1, .bool x.f2, .int .i64 x.f3, .int .i64 x.f4, .int .i64 x.f5, .int .i64 x.f6, .int .i64 now, .int .i64 0, .int .u64 0, .pointer (some ⟨g, 0, none⟩)]) 71 (0, 0)) = W := ⟨_, rfl⟩
  rw [hw5] at BP HB5 hHeld ⊢
  obtain ⟨p, hpn⟩ : ∃ p, w4.heap.size = p := ⟨_, rfl⟩
  have HPN := Aside0.mk hpn
  rw [hpn] at BP ⊢
  clear hK K hw5 hpn
  refine norm_ (a' := ?_) ?_ ?_
  rotate_left
  · show Act.put _ (some 76) _ = _
    simp only [Act.put, List.setIfInBounds_toArray, List.set_cons_zero, List.set_cons_succ]
    rfl
  refine one_ (i := 10) (N := some 77) #[true, true, true, true, true, true, true, true, true, true, true, false, false, false, false] rfl rfl (by kernel_rfl) (by decide) (fun K hK => ?_)
  refine value_ (v := .slice (some ⟨w5.heap.size, 0, none⟩) 1 1) (w1 := w5.alloc (.cells #[.pointer (some ⟨p, 0, none⟩)] 61 (0, 0))) (by rfl) rfl ?_ ?_
  · first | (go_simp; done) | (go_simp; rfl)
  have BR := Aside0.mk (show (w5.alloc (.cells #[.pointer (some ⟨p, 0, none⟩)] 61 (0, 0))).heap[w5.heap.size]? = some (.cells #[.pointer (some ⟨p, 0, none⟩)] 61 (0, 0)) from blk_new w5 _)
  have BP := Aside0.mk (blk_alloc BP.out (.cells #[.pointer (some ⟨p, 0, none⟩)] 61 (0, 0)))
  have HB6 := Aside0.mk (HB5.out.trans (((Below.refl _ _).alloc HB5.out.size (.cells #[.pointer (some ⟨p, 0, none⟩)] 61 (0, 0)))))
  refine hK.out _ _ ⟨(HB6.out.block _ (blk_lt BQ4.out)), (HB6.out.block _ (blk_lt BKq5.out))⟩ (fun hHeld => ?_)
  obtain ⟨w6, hw6⟩ : ∃ W, w5.alloc (.cells #[.pointer (some ⟨p, 0, none⟩)] 61 (0, 0)) = W := ⟨_, rfl⟩
  obtain ⟨r, hr⟩ : ∃ r, w5.heap.size = r := ⟨_, rfl⟩
  rw [hw6] at BP BR HB6 hHeld ⊢
  rw [hr] at BR ⊢
  clear hK K hw6 hr
  refine norm_ (a' := ?_) ?_ ?_
  rotate_left
  · show Act.put _ (some 77) _ = _
    simp only [Act.put, List.setIfInBounds_toArray, List.set_cons_zero, List.set_cons_succ]
    rfl
  refine one_ (i := 11) (N := some 78) #[true, true, true, true, true, true, true, true, true, true, true, true, false, false, false] rfl rfl (by kernel_rfl) (by decide) (fun K hK => ?_)
  have HB6w := Aside0.mk (HB4.out.trans (HB6.out.mono HB4.out.size))
  have HP6 := Aside0.mk (HP.out w6 HB6w.out)
  obtain ⟨v1, w7, hrun, hown, hgr⟩ := run_append_ptr ⟨p, g, .slice (some ⟨a, 0, none⟩) L L⟩ rfl HP6.out.row ⟨r, 0, none⟩ ((blk_cell BR.out 0).trans rfl) HPL.out (Nat.le_trans HBL.out HB6w.out.size)
  obtain ⟨A1, c1, rfl⟩ := own_slice hown
  have HROW := Aside0.mk hown
  have HGR := Aside0.mk hgr
  have hneq := own_ne HP6.out.row HP6.out.blk (by decide)
  have BQ7 := Aside0.mk (show w7.heap[q]? = some (.cells #[.slice A n c] 60 (0, 0)) from blk_grown HP6.out.blk hgr hneq)
  have BP7 := Aside0.mk (blk_grown BP.out hgr (own_ne HP6.out.row BP.out (by decide)))
  have BK7 := Aside0.mk (blk_grown (blk_below BKq5.out HB6.out) hgr (own_ne HP6.out.row (blk_below BKq5.out HB6.out) (by decide)))
  refine value_ (v := .slice A1 (ps.length + 1) c1) (w1 := w7) (by rfl) rfl ?_ ?_
  · exact append_run (.tmp 71) (.tmp 77) rfl rfl rfl rfl hrun
  clear hrun hown hgr hneq
  refine hK.out _ _ ⟨BQ7.out.trans BQ4.out.symm, BK7.out.trans BKq5.out.symm⟩ (fun hHeld => ?_)
  clear hK K
  refine norm_ (a' := ?_) ?_ ?_
  rotate_left
  · show Act.put _ (some 78) _ = _
    simp only [Act.put, List.setIfInBounds_toArray, List.set_cons_zero, List.set_cons_succ]
    rfl
  refine pure_ (i := 12) (N := some 79) (v := ?_) (a' := ?_) #[true, true, true, true, true, true, true, true, true, true, true, true, true, false, false] rfl rfl (by kernel_rfl) (fun _ _ _ h => h) (Or.inl ⟨by rfl, ?_⟩) ?_ ?_
  rotate_left
  · intro w'
    go_simp
    with_reducible rfl
  rotate_left
  · simp only [Act.put, List.setIfInBounds_toArray, List.set_cons_zero, List.set_cons_succ]
    rfl
  refine pure_ (i := 13) (N := some 80) (v := ?_) (a' := ?_) #[true, true, true, true, true, true, true, true, true, true, true, true, true, true, false] rfl rfl (by kernel_rfl) (fun _ _ _ h => h) (Or.inl ⟨by rfl, ?_⟩) ?_ ?_
  rotate_left
  · intro w'
    go_simp
    with_reducible rfl
  rotate_left
  · simp only [Act.put, List.setIfInBounds_toArray, List.set_cons_zero, List.set_cons_succ]
    rfl
  refine last_ (i := 14) (N := none) #[true, true, true, true, true, true, true, true, true, true, true, true, true, true, true] rfl rfl (by kernel_rfl) (by decide) (fun K hK => ?_)
  have cq7 : w7.cell? ⟨q, 0, none⟩ = some (.slice A n c) := (blk_cell BQ7.out 0).trans rfl
  have fq7 : w7.frozen? ⟨q, 0, none⟩ = false := blk_frozen BQ7.out 0
  refine skip_ (w1 := w7.setCell ⟨q, 0, none⟩ (.slice A1 (ps.length + 1) c1)) (by rfl) rfl ?_ ?_
  · first | (go_simp; done) | (go_simp; rfl)
  refine hK.out _ _ ?_
  have HPUSH := Aside0.mk (add_push HP.out HB4.out HB6.out HGR.out HROW.out HWA.out BP7.out BQ7.out HPN.out HGA.out HL.out)
  obtain ⟨w9, hw9⟩ : ∃ W, w7.setCell ⟨q, 0, none⟩ (.slice A1 (ps.length + 1) c1) = W := ⟨_, rfl⟩
  rw [hw9] at HPUSH ⊢
  have H9 := Aside0.mk HPUSH.out.1
  have T9 := Aside0.mk HPUSH.out.2
  clear hK K hw9 cq7 fq7
  refine done_ (by kernel_rfl) ?_
  (try simp only [Exit.inBlock, Exit.then])
  go_wp2_with (fail)
  go_ret
  exact ⟨rfl, ⟨_, _, H9.out⟩, T9.out⟩
theorem add_call {w : World} {base q : Nat} {es : List En} (h : SadX w base q es) (hl : es.length ≤ 1000) (now : Int) (x : S27) :
    Calls Tryd.prog 10 #[.pointer (some ⟨q, 0, none⟩), .int .i64 now, .agg (#[.int .i64 x.f0.f0, .string x.f0.f1, .string x.f0.f2, .string x.f0.f3, .bool x.f0.f4, .int .i64 x.f0.f5, .int .i64 x.f1, .bool x.f2, .int .i64 x.f3, .int .i64 x.f4, .int .i64 x.f5, .int .i64 x.f6])] w (PgQ base q (addF es now x).1 (.int .i64 (addF es now x).2) w) := by
  obtain ⟨v, ps, hp⟩ := h
  unfold addF
  by_cases hm : mayL x = true ∧ 0 ≤ now
  · rw [if_pos hm]
    by_cases hf : findI es x.f0.f0 x.f2 < es.length
    · rw [if_pos hf]
      exact (add_there now x hm.1 hm.2 fun W hb => find_yes (hp.below hb) hl _ _ hf).mono fun e w' ⟨he, hb⟩ => ⟨he, ⟨_, _, hp.below hb⟩, .of_below hb⟩
    · rw [if_neg hf]
      obtain ⟨A, c, rfl, _⟩ := hp.slice
      by_cases h32 : 32 ≤ es.length
      · rw [if_pos h32]
        exact (add_full now x hm.1 hm.2 (fun W hb => (blk_cell (hp.below hb).blk 0).trans rfl) h32 fun W hb => find_no (hp.below hb) hl _ _ hf).mono fun e w' ⟨he, hb⟩ => ⟨he, ⟨_, _, hp.below hb⟩, .of_below hb⟩
      · rw [if_neg h32]
        exact add_ok hp (by omega) now x hm.1 hm.2 fun W hb => find_no (hp.below hb) hl _ _ hf
  · rw [if_neg hm]
    exact (add_arg now x hm fun W hb => find_any (hp.below hb) hl _ _).mono fun e w' ⟨he, hb⟩ => ⟨he, ⟨_, _, hp.below hb⟩, .of_below hb⟩
end Go.Proofs.YtkmnpnbfeiobiaaDoor.Sd
namespace Go.Proofs.YtkmnpnbfeiobiaaDoor.Sd
open Go.RowKit Go.Proofs.YtkmnpnbfeiobiaaDoorW.PrintWords Go.Proofs.YtkmnpnbfeiobiaaDoorW.PrintLast Go.Proofs.YtkmnpnbfeiobiaaDoorW.PrintMore Go.Proofs.YtkmnpnbfeiobiaaDoor.QSa
open Go.Proofs.YtkmnpnbfeiobiaaDoor
set_option linter.unusedVariables false
set_option linter.unusedSimpArgs false
/-- A row whose entries from i to m have moved by one. -/
def DelAt (w W : World) (g n i m c : Nat) (p : Nat → Nat) : Prop := w.grownBy W (some g) ∧ ∃ cur : Array Value, W.heap[g]? = some (.cells cur 61 (0, 0)) ∧ cur.size = c ∧ ∀ k, k < n → cur[k]? = some (.pointer (some ⟨if i ≤ k ∧ k < m then p (k + 1) else p k, 0, none⟩))
theorem DelAt.drewN {w W : World} {g n i m c : Nat} {p : Nat → Nat} (h : DelAt w W g n i m c p) (d : Nat) : DelAt w (W.drewN d) g n i m c p := by
  obtain ⟨⟨h1, h2, h3, h4, h5⟩, cur, h6⟩ := h
  exact ⟨⟨h1, h2, h3, h4, h5⟩, cur, h6⟩
theorem grown_set {w W : World} {g : Nat} (h : w.grownBy W (some g)) (i : Nat) (u : Value) : w.grownBy (W.setCell ⟨g, i, none⟩ u) (some g) :=
  ⟨h.os, h.tape, h.output, by simpa [World.setCell] using h.size, fun k hk hne => (Below.heap_setCell W _ _ k (fun e => hne (by rw [e]))).trans (h.block k hk hne)⟩
theorem DelAt.step {w W : World} {g n i m c : Nat} {p : Nat → Nat} (h : DelAt w W g n i m c p) (hi : i ≤ m) (hm : m + 1 < n) : DelAt w (W.setCell ⟨g, m, none⟩ (.pointer (some ⟨p (m + 1), 0, none⟩))) g n i (m + 1) c p := by
  obtain ⟨h1, cur, h2, h3, h4⟩ := h
  refine ⟨grown_set h1 _ _, _, blk_set h2 m _, by simpa using h3, fun k hk => ?_⟩
  have hms : m < cur.size := by
    have := h4 m (by omega)
    exact (Array.getElem?_eq_some_iff.1 this).1
  by_cases e : m = k
  · subst e
    rw [Array.getElem?_setIfInBounds_self_of_lt hms, if_pos (by omega)]
  · rw [Array.getElem?_setIfInBounds_ne e, h4 k hk]
    by_cases hc : i ≤ k ∧ k < m
    · rw [if_pos hc, if_pos (by omega)]
    · rw [if_neg hc, if_neg (by omega)]
theorem DelAt.cell {w W : World} {g n i m c : Nat} {p : Nat → Nat} (h : DelAt w W g n i m c p) (k : Nat) (hk : k < n) : W.cell? ⟨g, k, none⟩ = some (.pointer (some ⟨if i ≤ k ∧ k < m then p (k + 1) else p k, 0, none⟩)) ∧ W.frozen? ⟨g, k, none⟩ = false := by
  obtain ⟨h1, cur, h2, h3, h4⟩ := h
  exact ⟨(blk_cell h2 k).trans (h4 k hk), blk_frozen h2 k⟩
theorem clear_one {W : World} {g m d : Nat} {u : Value} (hc : W.cell? ⟨g, m, none⟩ = some u) (hf : W.frozen? ⟨g, m, none⟩ = false) (ty : TypeId) : (Builtin.clear_ #[58] ty #[.slice (some ⟨g, m, none⟩) 1 d]).run Tryd.prog W = .ok (.tuple #[]) (W.setCell ⟨g, m, none⟩ (.pointer none)) := by
  have hz : ∀ w, (zeroValue 61).run Tryd.prog w = .ok (.pointer none) w := fun w => by go_simp
  have h := Lib.run_clear_slice (P := Tryd.prog) W 58 61 ty (.pointer none) Tryd.underlying58 hz rfl rfl g m 1 d (by omega)
    (fun j hj => by obtain rfl : j = 0 := by omega
                    simp [hc]) (fun j hj => by obtain rfl : j = 0 := by omega
                                               simpa using hf)
  rw [h]
  rfl
def DelQ (w : World) (g n i c : Nat) (p : Nat → Nat) (e : Ending) (w' : World) : Prop := e = .returned (.slice (some ⟨g, 0, none⟩) (n - 1) c) ∧ w.grownBy w' (some g) ∧ ∃ cur : Array Value, w'.heap[g]? = some (.cells cur 61 (0, 0)) ∧ cur.size = c ∧ ∀ k, k < n - 1 → cur[k]? = some (.pointer (some ⟨if i ≤ k then p (k + 1) else p k, 0, none⟩))
set_option maxHeartbeats 3200000 in
set_option maxRecDepth 100000 in
theorem delete30 {w : World} {g n c i b4 : Nat} {p : Nat → Nat} (hn : n ≤ 1000) (hi : i < n) (hnc : n ≤ c) (hd0 : DelAt w w g n i i c p) (hne : ∀ j, j < n → (p j == p i) = decide (j = i)) (hp : ∀ W, Below w.heap.size w W → PtrAt W (some ⟨g, 0, none⟩) n p)
    (hh : ∀ j W, j < n → w.grownBy W (some g) → Calls Tryd.prog 30 #[.pointer (some ⟨p j, 0, none⟩), .pointer (some ⟨b4, 0, none⟩)] W fun e W' => e = .returned (.bool (p j == p i)) ∧ ∃ m, W' = W.drewN m) :
    Calls Tryd.prog 29 #[.slice (some ⟨g, 0, none⟩) n c, .func (.func 30) #[] #[.pointer (some ⟨b4, 0, none⟩)]] w (DelQ w g n i c p) := by
  have IX := Aside0.mk (index30 (w := w) (A := some ⟨g, 0, none⟩) (n := n) (c := c) (p := p) (hit := fun j => p j == p i) (b4 := b4) hn hp (fun j W hj hb => hh j W hj ⟨hb.os, hb.tape, hb.output, hb.size, fun k hk _ => hb.block k hk⟩))
  have HIDX := Aside0.mk (show ∀ r, IdxOf n (fun j => p j == p i) r → r = (i : Int) from fun r hr => by
    rcases hr with ⟨_, h⟩ | ⟨k, hk, rfl, h1, _⟩
    · have := h i hi
      simp at this
    · have := hne k hk
      dsimp only at h1
      rw [h1] at this
      have : k = i := by simpa using this.symm
      rw [this])
  have HD0 := Aside0.mk fun (W : World) (hb : Below w.heap.size w W) => (show DelAt w W g n i i c p from by
    obtain ⟨h1, cur, h2, h3⟩ := hd0
    exact ⟨⟨hb.os, hb.tape, hb.output, hb.size, fun k hk _ => hb.block k hk⟩, cur, blk_below h2 hb, h3⟩)
  have HC := Aside0.mk fun (j : Nat) (W : World) (hj : j < n) (hji : j ≠ i) (hg : w.grownBy W (some g)) => (show Calls Tryd.prog 30 #[.pointer (some ⟨p j, 0, none⟩), .pointer (some ⟨b4, 0, none⟩)] W fun e W' => e = .returned (.bool false) ∧ ∃ m, W' = W.drewN m from by
    have := hh j W hj hg
    rw [hne j hj, decide_eq_false hji] at this
    exact this)
  have hi1 : IntKind.i64.wrap ((i : Int) + 1) = (i : Int) + 1 := IntWalk.i64_in _ (by omega)
  have hne1 : ((i : Int) == -1) = false := by rw [beq_eq_false_iff_ne]; omega
  clear hd0 hne hp hh
  go_enter Tryd.func29, Tryd.ntmps29
  go_wp2_with (fail)
  refine IX.out.mono ?_
  rintro e w1 ⟨⟨r, rfl, hr⟩, hb⟩
  obtain rfl := HIDX.out r hr
  have D1 := Aside0.mk (HD0.out w1 hb)
  clear hr hb
  go_wp2_with (fail)
  go_loopw [5, 6] (fun iv jv wr => ∃ m : Nat, i ≤ m ∧ m + 1 ≤ n ∧ iv = .int .i64 (m : Int) ∧ jv = .int .i64 ((m : Int) + 1) ∧ Aside0 (DelAt w wr g n i m c p)) (fun iv _ _ => n - (intOf iv).toNat)
  case atStart => exact ⟨i, by omega, by omega, rfl, rfl, D1⟩
  case round =>
    clear D1 hi1 hne1
    obtain ⟨m, him, hmn, rfl, rfl, D⟩ := hrel
    have hm1 : IntKind.i64.wrap ((m : Int) + 1) = (m : Int) + 1 := IntWalk.i64_in _ (by omega)
    by_cases hlt : m + 1 < n
    · have hltI : (m : Int) + 1 < (n : Int) := by omega
      have hltN : decide ((m : Int) + 1 < (n : Int)) = true := decide_eq_true hltI
      have hm0 : (0 : Int) ≤ (m : Int) + 1 := by omega
      have hmT : ((m : Int) + 1).toNat = m + 1 := by omega
      have hmI : (m : Int) < (n : Int) := by omega
      have hm2 : IntKind.i64.wrap ((m : Int) + 1 + 1) = (m : Int) + 1 + 1 := IntWalk.i64_in _ (by omega)
      have hc := (D.out.cell (m + 1) hlt).1
      rw [if_neg (by omega)] at hc
      have CC := Aside0.mk (HC.out (m + 1) wr hlt (by omega) D.out.1)
      have DS := Aside0.mk fun d => (D.out.drewN d).step him hlt
      have cm := (D.out.cell m (by omega)).1
      have fm := (D.out.cell m (by omega)).2
      obtain ⟨y, hy⟩ : ∃ y, p (m + 1) = y := ⟨_, rfl⟩
      rw [hy] at hc CC DS
      clear hy
      go_wp2_with (fail)
      refine CC.out.mono ?_
      rintro e w2 ⟨rfl, d, rfl⟩
      go_wp2_with (fail)
      go_roundw
      case rel => exact ⟨m + 1, by omega, by omega, by go_num, by go_num, ⟨DS.out d⟩⟩
      case measure => simp [intOf]; omega
    · have hltI : ¬ (m : Int) + 1 < (n : Int) := by omega
      have hltN : decide ((m : Int) + 1 < (n : Int)) = false := decide_eq_false hltI
      obtain rfl : n = m + 1 := by omega
      have hcl := fun ty => clear_one (d := c - m) (D.out.cell m (by omega)).1 (D.out.cell m (by omega)).2 ty
      have hmc : m ≤ c := by omega
      have hmcN : ¬ m = c := by omega
      go_wp2_with (fail)
      go_ret
      obtain ⟨h1, cur, h2, h3, h4⟩ := D.out
      refine ⟨by simp, grown_set h1 _ _, _, blk_set h2 m _, by simpa using h3, fun k hk => ?_⟩
      have hkm : k < m := by omega
      rw [Array.getElem?_setIfInBounds_ne (by omega), h4 k (by omega)]
      by_cases hc : i ≤ k
      · rw [if_pos ⟨hc, hkm⟩, if_pos hc]
      · rw [if_neg (fun h => hc h.1), if_neg hc]
def remF (es : List En) (spi : Int) (out : Bool) : List En × Int := if findI es spi out < es.length then (es.eraseIdx (findI es spi out), 0) else (es, 6)
/-- A row that has lost an entry. -/
theorem own_erase {w' : World} {base g c i : Nat} {ps : List Pl} {cur : Array Value} (hb : base ≤ g) (hc : ps.length ≤ c) (hcm : c ≤ maxLen) (hi : i < ps.length) (h1 : w'.heap[g]? = some (.cells cur 61 (0, 0))) (h2 : cur.size = c) (h3 : ∀ k, k < ps.length - 1 → cur[k]? = some (.pointer (some ⟨if i ≤ k then (ps.getD (k + 1) pl0).p else (ps.getD k pl0).p, 0, none⟩))) :
    w'.ownsRow base 61 1 (.slice (some ⟨g, 0, none⟩) (ps.length - 1) c) (ps.length - 1) ((ps.map Pl.ptr).eraseIdx i) := by
  refine ⟨by rw [List.length_eraseIdx_of_lt (by simpa using hi)]; simp, .inr ⟨g, c, cur, rfl, hb, h1, by omega, hcm, by omega, ?_⟩⟩
  apply List.ext_getElem?
  intro k
  rw [Nat.mul_one, List.getElem?_take, List.getElem?_eraseIdx]
  by_cases hk : k < ps.length - 1
  · rw [if_pos hk, Array.getElem?_toList, h3 k hk]
    by_cases hik : i ≤ k
    · rw [if_pos hik, if_neg (by omega), List.getElem?_map, List.getElem?_eq_getElem (by omega), List.getD_eq_getElem?_getD, List.getElem?_eq_getElem (by omega)]
      rfl
    · rw [if_neg hik, if_pos (by omega), List.getElem?_map, List.getElem?_eq_getElem (by omega), List.getD_eq_getElem?_getD, List.getElem?_eq_getElem (by omega)]
      rfl
  · rw [if_neg hk]
    split
    · rw [List.getElem?_eq_none (by simp; omega)]
    · rw [List.getElem?_eq_none (by simp; omega)]
set_option maxHeartbeats 1600000 in
set_option maxRecDepth 100000 in
theorem rem_no {w : World} {p : Option Addr} {c : Int} (hL : Laid w) (spi : Int) (out : Bool) (hv : Calls Tryd.prog 23 #[.pointer p, .int .i64 spi, .bool out] w (FindNo c w)) :
    Calls Tryd.prog 15 #[.pointer p, .int .i64 spi, .bool out] w fun e w' => e = .returned (.int .i64 c) ∧ Below w.heap.size w w' := by
  have HV := Aside0.mk hv
  have HL := Aside0.mk fun (W : World) (hb : Below w.heap.size w W) => hL.below hL.pos hb
  clear hv hL
  go_enter Tryd.func15, Tryd.ntmps15
  go_wp2_with (fail)
  refine HV.out.mono ?_
  rintro e w1 ⟨⟨v, rfl, hv⟩, hb⟩
  have HV1 := Aside0.mk hv
  obtain ⟨k, s, rfl, _⟩ := hv
  have HB := Aside0.mk hb
  clear hb
  go_wp2_with (fail)
  have hb2 : Below w1.heap.size w1 (w1.alloc (.cells #[.pointer none] 61)) := below_alloc (Below.refl _ _) _
  have NW := Aside0.mk (number_walk ((HL.out w1 HB.out).below (HL.out w1 HB.out).pos hb2) (HV1.out.below hb2))
  have HB2 := Aside0.mk (HB.out.trans (hb2.mono HB.out.size))
  clear hb2
  refine NW.out.mono ?_
  rintro e w2 ⟨rfl, hb⟩
  have HB3 := Aside0.mk (HB2.out.trans (hb.mono HB2.out.size))
  clear hb
  go_wp2_with (fail)
  go_ret
  exact ⟨rfl, HB3.out⟩
set_option maxHeartbeats 3200000 in
set_option maxRecDepth 100000 in
theorem rem_yes {w : World} {base q c : Nat} {A : Option Addr} {ps : List Pl} {es : List En} (hp : SadP w base q (.slice A es.length c) ps es) (hl : es.length ≤ 1000) (spi : Int) (out : Bool) (hf : findI es spi out < es.length) :
    Calls Tryd.prog 15 #[.pointer (some ⟨q, 0, none⟩), .int .i64 spi, .bool out] w (PgQ base q (es.eraseIdx (findI es spi out)) (.int .i64 0) w) := by
  have FY := Aside0.mk (find_yes hp hl spi out hf)
  obtain ⟨i, hi⟩ : ∃ i, findI es spi out = i := ⟨_, rfl⟩
  rw [hi] at hf FY ⊢
  have hlen := hp.len
  obtain ⟨g, hA⟩ : ∃ g, A = some ⟨g, 0, none⟩ := by
    obtain ⟨b, _, hv, _⟩ := hp.cell i hf
    injection hv with hv _ _
    exact ⟨b, hv⟩
  subst hA
  obtain ⟨hgb, cur, hgc, hcs, hcap, hcm, hct⟩ : base ≤ g ∧ ∃ cur, w.heap[g]? = some (.cells cur 61 (0, 0)) ∧ cur.size = c ∧ es.length ≤ c ∧ c ≤ maxLen ∧ cur.toList.take es.length = ps.map Pl.ptr := by
    rcases hp.row.2 with ⟨h0, _⟩ | ⟨g', cap, cur, hv, h1, h2, h3, h4, h5, h6⟩
    · cases h0
    · injection hv with e1 e2 e3
      injection e1 with e1
      injection e1 with e1
      subst e1 e3
      exact ⟨h1, cur, h2, by simpa using h5, by omega, h4, by rw [← hlen, ← h6]; simp⟩
  have HP := Aside0.mk fun (W : World) (hb : Below w.heap.size w W) => hp.below hb
  have hcur : ∀ k, k < es.length → cur[k]? = some (.pointer (some ⟨(ps.getD k pl0).p, 0, none⟩)) := fun k hk => by
    have h := congrArg (fun l : List Value => l[k]?) hct
    simp only [List.getElem?_take, if_pos hk, Array.getElem?_toList] at h
    rw [h, List.getElem?_map, List.getElem?_eq_getElem (by omega), List.getD_eq_getElem?_getD, List.getElem?_eq_getElem (by omega)]
    rfl
  have HDEL := Aside0.mk fun (W : World) (b : Nat) (hb : Below w.heap.size w W) (hbb : W.heap[b]? = some (.cells #[.pointer (some ⟨(ps.getD i pl0).p, 0, none⟩)] 61 (0, 0))) (hbg : b ≠ g) =>
    delete30 (w := W) (g := g) (n := es.length) (c := c) (i := i) (b4 := b) (p := fun j => (ps.getD j pl0).p) hl hf hcap ⟨⟨rfl, rfl, rfl, Nat.le_refl _, fun _ _ _ => rfl⟩, cur, blk_below hgc hb, hcs, fun k hk => by rw [if_neg (by omega)]; exact hcur k hk⟩
      (fun j hj => by
        by_cases e : j = i
        · subst e; simp
        · rw [decide_eq_false e, beq_eq_false_iff_ne]
          exact (hp.apart j i (by omega) (by omega) e).p)
      (fun W2 hb2 => ((hp.below hb).below hb2).ptrs)
      (fun j W2 hj hg2 => by
        have hj1 := ((hp.below hb).at j hj).blk
        have hi1 := ((hp.below hb).at i hf).blk
        have hgW := blk_below hgc hb
        exact same_walk (blk_grown hj1 hg2 (fun e => blk_ne hj1 hgW (by decide) (Option.some.inj e))) (blk_grown hi1 hg2 (fun e => blk_ne hi1 hgW (by decide) (Option.some.inj e))) (blk_grown hbb hg2 (fun e => hbg (Option.some.inj e))))
  have hglt := blk_lt hgc
  have HGL := Aside0.mk hglt
  have FIN := Aside0.mk fun (W W' : World) (hb : Below w.heap.size w W) (hg2 : W.grownBy W' (some g)) (cur' : Array Value) (h1 : W'.heap[g]? = some (.cells cur' 61 (0, 0))) (h2 : cur'.size = c) (h3 : ∀ k, k < es.length - 1 → cur'[k]? = some (.pointer (some ⟨if i ≤ k then (ps.getD (k + 1) pl0).p else (ps.getD k pl0).p, 0, none⟩))) =>
    (show SadP (W'.setCell ⟨q, 0, none⟩ (.slice (some ⟨g, 0, none⟩) (es.length - 1) c)) base q (.slice (some ⟨g, 0, none⟩) (es.length - 1) c) (ps.eraseIdx i) (es.eraseIdx i) ∧ Turn TP base w (W'.setCell ⟨q, 0, none⟩ (.slice (some ⟨g, 0, none⟩) (es.length - 1) c)) from by
      have hqg := blk_ne hp.blk hgc (by decide)
      have hq' : W'.heap[q]? = some (.cells #[.slice (some ⟨g, 0, none⟩) es.length c] 60 (0, 0)) := blk_grown (hp.below hb).blk hg2 (fun e => hqg (Option.some.inj e))
      have hown := own_erase (ps := ps) (i := i) hgb (by omega) hcm (by omega) h1 h2 (by rw [hlen]; exact h3)
      rw [hlen] at hown
      have hsz : (W'.setCell ⟨q, 0, none⟩ (.slice (some ⟨g, 0, none⟩) (es.length - 1) c)).heap.size = W'.heap.size := by simp [World.setCell]
      have hs1 := hb.size
      have hs2 := hg2.size
      exact Tab.erase hp TP_ok WnPg_ok i hf (blk_put hq' 0 _ rfl) (by rw [hlen]; exact own_setCell hown (own_ne hown hq' (by decide)) _) (hg2.os.trans hb.os) (hg2.tape.trans hb.tape) (hg2.output.trans hb.output) (by rw [hsz]; omega)
        (fun k k1 k2 k3 => (Below.heap_setCell W' _ _ k k2).trans ((hg2.block k (by omega) (fun e => k3 e.symm)).trans (hb.block k k1))))
  have HBQ := Aside0.mk fun (W W' : World) (hb : Below w.heap.size w W) (hg2 : W.grownBy W' (some g)) => (show W'.cell? ⟨q, 0, none⟩ = some (.slice (some ⟨g, 0, none⟩) es.length c) ∧ W'.frozen? ⟨q, 0, none⟩ = false from by
    have hqg := blk_ne hp.blk hgc (by decide)
    have hq' : W'.heap[q]? = some (.cells #[.slice (some ⟨g, 0, none⟩) es.length c] 60 (0, 0)) := blk_grown (hp.below hb).blk hg2 (fun e => hqg (Option.some.inj e))
    exact ⟨(blk_cell hq' 0).trans rfl, blk_frozen hq' 0⟩)
  have HCQ := Aside0.mk fun (W : World) (hb : Below w.heap.size w W) => (show W.cell? ⟨q, 0, none⟩ = some (.slice (some ⟨g, 0, none⟩) es.length c) from (blk_cell (hp.below hb).blk 0).trans rfl)
  obtain ⟨P, hP⟩ : ∃ P, (ps.getD i pl0).p = P := ⟨_, rfl⟩
  obtain ⟨n, hn⟩ : ∃ n, es.length = n := ⟨_, rfl⟩
  rw [hP] at FY HDEL
  rw [hn] at HDEL FIN HBQ HCQ hl hf
  clear hp hlen hgc hct hcur hP hn hi hcs hglt hgb hcap hcm
  go_enter Tryd.func15, Tryd.ntmps15
  go_wp2_with (fail)
  refine FY.out.mono ?_
  rintro e w1 ⟨rfl, hb⟩
  have hb2 : Below w1.heap.size w1 (w1.alloc (.cells #[.pointer (some ⟨P, 0, none⟩)] 61)) := below_alloc (Below.refl _ _) _
  have HB2 := Aside0.mk (hb.trans (hb2.mono hb.size))
  have cq := HCQ.out _ HB2.out
  have DW := Aside0.mk (HDEL.out _ w1.heap.size HB2.out (blk_new w1 _) (by have := HGL.out; have := hb.size; omega))
  clear hb hb2
  go_wp2_with (fail)
  refine DW.out.mono ?_
  rintro e w3 ⟨rfl, hg, cur', h1, h2, h3⟩
  obtain ⟨c3, f3⟩ := HBQ.out _ w3 HB2.out hg
  have FN := Aside0.mk (FIN.out _ w3 HB2.out hg cur' h1 h2 h3)
  clear hg h1 h2 h3 cq DW
  go_wp2_with (fail)
  go_ret
  exact ⟨rfl, ⟨_, _, FN.out.1⟩, FN.out.2⟩
theorem rem_call {w : World} {base q : Nat} {es : List En} (h : SadX w base q es) (hL : Laid w) (hl : es.length ≤ 1000) (spi : Int) (out : Bool) :
    Calls Tryd.prog 15 #[.pointer (some ⟨q, 0, none⟩), .int .i64 spi, .bool out] w (PgQ base q (remF es spi out).1 (.int .i64 (remF es spi out).2) w) := by
  obtain ⟨v, ps, hp⟩ := h
  unfold remF
  by_cases hf : findI es spi out < es.length
  · rw [if_pos hf]
    obtain ⟨A, c, rfl, _⟩ := hp.slice
    exact rem_yes hp hl spi out hf
  · rw [if_neg hf]
    exact (rem_no hL spi out (find_no hp hl spi out hf)).mono fun e w' ⟨he, hb⟩ => ⟨he, ⟨_, _, hp.below hb⟩, .of_below hb⟩
theorem rem_nil (w : World) (hL : Laid w) (spi : Int) (out : Bool) : Calls Tryd.prog 15 #[.pointer none, .int .i64 spi, .bool out] w fun e w' => e = .returned (.int .i64 3) ∧ Below w.heap.size w w' :=
  rem_no hL spi out (find_nil w spi out)
end Go.Proofs.YtkmnpnbfeiobiaaDoor.Sd
namespace Go.Proofs.YtkmnpnbfeiobiaaDoor.Sd
open Go.RowKit Go.Proofs.YtkmnpnbfeiobiaaDoorW.PrintWords Go.Proofs.YtkmnpnbfeiobiaaDoorW.PrintLast Go.Proofs.YtkmnpnbfeiobiaaDoorW.PrintMore Go.Proofs.YtkmnpnbfeiobiaaDoor.QSa
open Go.Proofs.YtkmnpnbfeiobiaaDoor
set_option linter.unusedVariables false
set_option linter.unusedSimpArgs false
def enc40 (x : S40) : List Value := [.int .i64 x.f0, .int .i64 x.f1, .int .i64 x.f2, .int .i64 x.f3, .int .i64 x.f4, .int .i64 x.f5, .bool x.f6, .int .u64 x.f7, .int .i64 x.f8.f0.f0, .string x.f8.f0.f1, .string x.f8.f0.f2, .string x.f8.f0.f3, .bool x.f8.f0.f4, .int .i64 x.f8.f0.f5, .int .i64 x.f8.f1, .bool x.f8.f2, .int .i64 x.f8.f3, .int .i64 x.f8.f4, .int .i64 x.f8.f5, .int .i64 x.f8.f6]
theorem isz40 : (Tryd.prog.info? 40).map (·.size) = some 20 := by kernel_rfl
theorem one40 (x : S40) : (enc40 x).toArray.all (·.oneCell') = true := by
  unfold enc40
  simp [Value.oneCell']
/-- A call in a row, read whole. -/
theorem row40 {W : World} {A : Option Addr} {n : Nat} {xs : List S40} (h : Kd.C k40 W A n xs) (i : Nat) (hi : i < n) :
    ∃ ad, A = some ad ∧ (loadVar 40 (ad.add (i * 20))).run Tryd.prog W = .ok (.agg (enc40 (xs.getD i z40)).toArray) W := by
  obtain ⟨ad, c, e, _, hK, hc0⟩ := Kd.C_get h z40 (i : Int) (by omega) (by omega)
  rw [Int.toNat_natCast] at hK hc0
  have hc : ∀ j u, c[j]? = some u → W.cell? (ad.add (i * 20 + j)) = some u := hc0
  obtain rfl : c = enc40 (xs.getD i z40) := k40_open hK
  refine ⟨ad, e, ?_⟩
  have hl := run_loadCells_list (P := Tryd.prog) W (ad.add (i * 20)) (enc40 (xs.getD i z40)) (fun j v hv => by rw [Deep.add_add]; exact hc j v hv)
  have hs : (enc40 (xs.getD i z40)).length = 20 := rfl
  rw [hs] at hl
  have hi40 := isz40
  cases hq : Tryd.prog.info? 40 with
  | none => rw [hq] at hi40; cases hi40
  | some inf =>
    have hs : inf.size = 20 := by rw [hq] at hi40; simpa using hi40
    have hagg : (isAgg 40).run Tryd.prog W = .ok true W := by
      unfold isAgg
      rw [Sem.run_bind, run_underlying Tryd.underlying40 W]
      rfl
    simp only [loadVar, Sem.run_bind, hagg, sizeOf, typeInfo, hq, hs, hl, Result.andThen_ok, if_true, Sem.run_pure]
    simp [hq, hs, hl]
/-- The script is looked at. -/
def FewOk (l : List S40) : Prop := l.length ≤ 150 ∧ ∀ i, i < l.length → (l.getD i z40).f4 ≤ 1000000000 ∧ -1 ≤ (l.getD i z40).f1 ∧ (l.getD i z40).f1 ≤ 1000000000
def Sized40 (x : S40) : Prop := x.f8.f0.f1.size ≤ 140737488351232 ∧ x.f8.f0.f2.size ≤ 140737488351232 ∧ x.f8.f0.f3.size ≤ 140737488351232
def FewQ (l : List S40) (w : World) (e : Ending) (w' : World) : Prop := (∃ b, e = .returned (.bool b) ∧ (b = true → FewOk l)) ∧ Below w.heap.size w w'
theorem setRow_new (w : World) (c c' : Array Value) (t : TypeId) : (w.alloc (.cells c t)).setRow w.heap.size c' = w.alloc (.cells c' t) := World.setRow_alloc_new w c c' t
set_option maxHeartbeats 3200000 in
set_option maxRecDepth 100000 in
theorem few_walk (A : Option Addr) (c : Nat) (l : List S40) (w : World) (hr : Kd.C k40 w A l.length l) (hl : l.length ≤ maxLen) (hz : ∀ i, i < l.length → Sized40 (l.getD i z40)) :
    Calls Tryd.prog 13 #[.slice A l.length c] w (FewQ l w) := by
  have HR := Aside0.mk fun (W : World) (hb : Below w.heap.size w W) => Kd.C_below hr hb
  have HZ := Aside0.mk hz
  have HB := Aside0.mk (Below.refl w.heap.size w)
  obtain ⟨n, hn⟩ : ∃ n, l.length = n := ⟨_, rfl⟩
  have HN := Aside0.mk hn
  rw [hn] at hl HR HZ ⊢
  clear hr hn hz
  unfold maxLen at hl
  by_cases h150 : 150 < n
  · have d1 : decide ((150 : Int) < (n : Int)) = true := decide_eq_true (by omega)
    have d2 : decide (150 < n) = true := decide_eq_true h150
    clear h150
    go_enter Tryd.func13, Tryd.ntmps13
    go_wp2_with (fail)
    go_ret
    exact ⟨⟨_, rfl, fun h => by cases h⟩, HB.out⟩
  have d1 : decide ((150 : Int) < (n : Int)) = false := decide_eq_false (by omega)
  have d2 : decide (150 < n) = false := decide_eq_false h150
  go_enter Tryd.func13, Tryd.ntmps13
  go_wp2_with (fail)
  clear d1 d2
  go_loopw [3] (fun iv wr => ∃ i : Nat, i ≤ n ∧ iv = .int .i64 i ∧ Aside0 (∀ j, j < i → (l.getD j z40).f4 ≤ 1000000000 ∧ -1 ≤ (l.getD j z40).f1 ∧ (l.getD j z40).f1 ≤ 1000000000) ∧ Aside0 (Below w.heap.size w wr)) (fun iv _ => n - (intOf iv).toNat)
  case atStart => exact ⟨0, by omega, rfl, ⟨fun j hj => by omega⟩, HB⟩
  case round =>
    clear HB
    obtain ⟨i, hin, rfl, HI, HB⟩ := hrel
    by_cases hlt : i < n
    · have hd : decide ((i : Int) < (n : Int)) = true := decide_eq_true (by omega)
      have hd' : decide (i < n) = true := decide_eq_true hlt
      have hltI : (i : Int) < (n : Int) := by omega
      obtain ⟨ad, hA, LD⟩ := row40 (HR.out _ HB.out) i hlt
      subst hA
      have hsz := HZ.out i hlt
      obtain ⟨x, hx⟩ : ∃ x, l.getD i z40 = x := ⟨_, rfl⟩
      have HX := Aside0.mk hx
      rw [hx] at LD hsz
      obtain ⟨CS, hCS⟩ : ∃ CS, (enc40 x).toArray = CS := ⟨_, rfl⟩
      have H1 := Aside0.mk (show CS.all (·.oneCell') = true from by rw [← hCS]; exact one40 x)
      have HSZ := Aside0.mk (show CS.size = 20 from by rw [← hCS]; rfl)
      have HCS := Aside0.mk hCS
      rw [hCS] at LD
      obtain ⟨s1, hs1⟩ : ∃ n, x.f8.f0.f1.size = n := ⟨_, rfl⟩
      obtain ⟨s2, hs2⟩ : ∃ n, x.f8.f0.f2.size = n := ⟨_, rfl⟩
      obtain ⟨s3, hs3⟩ : ∃ n, x.f8.f0.f3.size = n := ⟨_, rfl⟩
      unfold Sized40 at hsz
      rw [hs1, hs2, hs3] at hsz
      obtain ⟨hz1, hz2, hz3⟩ := hsz
      have e1 : (x.f8.f0.f1.size : Int) = (s1 : Int) := by rw [hs1]
      have e2 : (x.f8.f0.f2.size : Int) = (s2 : Int) := by rw [hs2]
      have e3 : (x.f8.f0.f3.size : Int) = (s3 : Int) := by rw [hs3]
      obtain ⟨s12, hs12⟩ : ∃ s, s1 + s2 = s := ⟨_, rfl⟩
      obtain ⟨s, hs⟩ : ∃ s, s12 + s3 = s := ⟨_, rfl⟩
      have a12 : IntKind.i64.wrap ((s1 : Int) + (s2 : Int)) = (s12 : Int) := by rw [IntWalk.i64_in _ (by omega)]; omega
      have a123 : IntKind.i64.wrap ((s12 : Int) + (s3 : Int)) = (s : Int) := by rw [IntWalk.i64_in _ (by omega)]; omega
      have hi1 : IntKind.i64.wrap ((i : Int) + 1) = ((i + 1 : Nat) : Int) := by rw [IntWalk.i64_in _ (by omega)]; omega
      clear hx hCS hs1 hs2 hs3 hz1 hz2 hz3 hs12 hs
      go_upto_region 7 with (first | ((with_reducible refine gate_dst (N := 17) rfl ?_); refine Kd.event_run (v := .agg CS) (w1 := wr) ?hg (load_runA 40 (.tmp 16) (ad.add (i * 20)) CS ?ho ?hx LD) ?_; (case hg => rfl); (case ho => rfl); (case hx => rfl); clear LD) | ((with_reducible refine gate_dst (N := 4) rfl ?_); refine box_event ?hg (N := 4) ?hd (cs := #[.int .i64 0, .int .i64 0, .int .i64 0, .int .i64 0, .int .i64 0, .int .i64 0, .bool false, .int .u64 0, .int .i64 0, .string ByteArray.empty, .string ByteArray.empty, .string ByteArray.empty, .bool false, .int .i64 0, .int .i64 0, .bool false, .int .i64 0, .int .i64 0, .int .i64 0, .int .i64 0]) (t := 40) ?hr ?_; (case hd => rfl); (case hg => rfl); (case hr => first | (go_simp; done) | (go_simp; rfl)); intro q4 hq w1 hbox hb; have BKq4 := Aside0.mk hbox; have HQq4 := Aside0.mk (show w.heap.size ≤ q4 from by rw [hq]; exact HB.out.size); have HB1 := Aside0.mk (HB.out.trans (hb.mono HB.out.size)); clear hbox hb hq) | ((with_reducible refine gate_store (t := 40) (p := 4) rfl ?_); refine store_rowE ?hg 40 (.tmp 4) (.tmp 17) ?ho ?hN q4 CS ?hx ?hy 40 _ BKq4.out ?hi ?hold H1.out ?_; (case hg => rfl); (case ho => rfl); (case hN => rfl); (case hx => rfl); (case hy => rfl); (case hi => rw [HSZ.out]; exact isz40); (case hold => rw [HSZ.out]; rfl); intro w2 hw; have HB2 := Aside0.mk (show Below w.heap.size w w2 from by rw [hw]; exact below_setRow HB1.out HQq4.out _); have BKq4 := Aside0.mk (show w2.heap[q4]? = some (.cells CS 40 (0, 0)) from by rw [hw]; exact setRow_heap _ _ _ _ _ _ BKq4.out); clear hw))
      have z1 : w2.cell? ⟨q4, 1, none⟩ = some (.int .i64 x.f1) := (blk_cell BKq4.out 1).trans (by rw [← HCS.out]; rfl)
      have z4 : w2.cell? ⟨q4, 4, none⟩ = some (.int .i64 x.f4) := (blk_cell BKq4.out 4).trans (by rw [← HCS.out]; rfl)
      have z9 : w2.cell? ⟨q4, 9, none⟩ = some (.string x.f8.f0.f1) := (blk_cell BKq4.out 9).trans (by rw [← HCS.out]; rfl)
      have z10 : w2.cell? ⟨q4, 10, none⟩ = some (.string x.f8.f0.f2) := (blk_cell BKq4.out 10).trans (by rw [← HCS.out]; rfl)
      have z11 : w2.cell? ⟨q4, 11, none⟩ = some (.string x.f8.f0.f3) := (blk_cell BKq4.out 11).trans (by rw [← HCS.out]; rfl)
      by_cases hA : 300 < s
      · have d1 : decide ((300 : Int) < (s : Int)) = true := decide_eq_true (by omega)
        have d1N : decide (300 < s) = true := decide_eq_true hA
        clear hA
        go_wp2_with (fail)
        go_ret
        exact ⟨⟨_, rfl, fun h => by cases h⟩, HB2.out⟩
      have d1 : decide ((300 : Int) < (s : Int)) = false := decide_eq_false (by omega)
      have d1N : decide (300 < s) = false := decide_eq_false hA
      clear hA
      by_cases hB : 1000000000 < x.f4
      · have d2 : decide (1000000000 < x.f4) = true := decide_eq_true hB
        clear hB
        go_wp2_with (fail)
        go_ret
        exact ⟨⟨_, rfl, fun h => by cases h⟩, HB2.out⟩
      have d2 : decide (1000000000 < x.f4) = false := decide_eq_false hB
      by_cases hC : x.f1 < -1
      · have d3 : decide (x.f1 < -1) = true := decide_eq_true hC
        clear hC hB
        go_wp2_with (fail)
        go_ret
        exact ⟨⟨_, rfl, fun h => by cases h⟩, HB2.out⟩
      have d3 : decide (x.f1 < -1) = false := decide_eq_false hC
      by_cases hD : 1000000000 < x.f1
      · have d4 : decide (1000000000 < x.f1) = true := decide_eq_true hD
        clear hD hC hB
        go_wp2_with (fail)
        go_ret
        exact ⟨⟨_, rfl, fun h => by cases h⟩, HB2.out⟩
      have d4 : decide (1000000000 < x.f1) = false := decide_eq_false hD
      have HN2 := Aside0.mk (show ∀ j, j < i + 1 → (l.getD j z40).f4 ≤ 1000000000 ∧ -1 ≤ (l.getD j z40).f1 ∧ (l.getD j z40).f1 ≤ 1000000000 from fun j hj => by
        rcases Nat.lt_succ_iff_lt_or_eq.1 hj with h | rfl
        · exact HI.out j h
        · rw [HX.out]; omega)
      clear hB hC hD
      go_wp2_with (fail)
      go_roundw
      case rel => exact ⟨i + 1, by omega, by go_num, HN2, HB2⟩
      case measure => simp [intOf]; omega
    · have hd : decide ((i : Int) < (n : Int)) = false := decide_eq_false (by omega)
      have hd' : decide (i < n) = false := decide_eq_false hlt
      go_wp2_with (fail)
      go_ret
      exact ⟨⟨_, rfl, fun _ => ⟨by rw [HN.out]; omega, fun j hj => HI.out j (by rw [HN.out] at hj; omega)⟩⟩, HB.out⟩
/-- The example's life. -/
def lf (n : Int) : S27 := ⟨⟨n, ⟨#[48, 49, 50, 51, 52, 53, 54, 55, 56, 57, 97, 98, 99, 100, 101, 102]⟩, ⟨#[115, 97, 108, 116]⟩, ⟨#[48, 49, 50, 51, 52, 53, 54, 55, 56, 57, 97, 98, 99, 100, 101, 102, 48, 49, 50, 51, 52, 53, 54, 55, 56, 57, 97, 98, 99, 100, 101, 102]⟩, false, 64⟩, 1, true, 10, 0, 0, 0⟩
theorem life_walk (n : Int) (w : World) : Calls Tryd.prog 9 #[.int .i64 n] w fun e w' => e = .returned (v27 (lf n)) ∧ Below w.heap.size w w' := redoubtlaw17_life.calls n _ _ _ _ _ _ _ _ _ _ _ _ w (by rfl)
/-- The program's associations beside a law. -/
structure One (w0 w : World) (q : Nat) (es : List En) : Prop where
  sad : SadX w w0.heap.size q es
  below : Below w0.heap.size w0 w
  laid0 : Laid w0
theorem One.laid {w0 w : World} {q : Nat} {es : List En} (h : One w0 w q es) : Laid w := h.laid0.below h.laid0.pos h.below
theorem One.step {w0 w w' : World} {q : Nat} {es : List En} (h : One w0 w q es) (hb : Below w.heap.size w w') : One w0 w' q es := ⟨h.sad.below hb, h.below.trans (hb.mono h.below.size), h.laid0⟩
theorem One.turn {w0 w w' : World} {q : Nat} {es es' : List En} {r : Value} {e : Ending} (h : One w0 w q es) (ht : PgQ w0.heap.size q es' r w e w') : e = .returned r ∧ One w0 w' q es' := ⟨ht.1, ht.2.1, ht.2.2.below h.below h.below.size, h.laid0⟩
theorem one_new {w0 w : World} (hL : Laid w0) (hb : Below w0.heap.size w0 w) : Calls Tryd.prog 8 #[] w fun e w' => ∃ q, e = .returned (.pointer (some ⟨q, 0, none⟩)) ∧ w.heap.size ≤ q ∧ Below w.heap.size w w' ∧ One w0 w' q [] :=
  (new_call w w0.heap.size hb.size).mono fun e w' ⟨⟨q, h1, h2, h3⟩, h4⟩ => ⟨q, h1, h2, h4, h3, hb.trans (h4.mono hb.size), hL⟩
def aw1 : En := newE (lf 256) 0
def aw2 : En := sendE aw1 10
def aw3 : En := newE (lf 257) 0
theorem awa : addF [] 0 (lf 256) = ([aw1], 0) := by kernel_rfl
theorem awb : sendF [aw1] 0 256 10 = ([aw2], (lf 256).f0, 1, 0) := by kernel_rfl
theorem awc : pickF [aw2] 0 1 = (256, 0) := by kernel_rfl
theorem awd : addF [aw2] 0 (lf 257) = ([aw2, aw3], 0) := by kernel_rfl
theorem awe : pickF [aw2, aw3] 0 1 = (257, 0) := by kernel_rfl
theorem awg1 : Good 0 aw1 := newE_good _ _ _ (by kernel_rfl) (by decide) (by decide)
theorem awg2 : Good 1 aw2 := awg1.send (by decide) (by decide) (by kernel_rfl)
theorem awg3 : Good 1 aw3 := newE_good _ _ _ (by kernel_rfl) (by decide) (by decide)
set_option maxHeartbeats 1600000 in
set_option maxRecDepth 100000 in
theorem awake_walk {w : World} (hL : Laid w) : Calls Tryd.prog 12 #[] w fun e w' => e = .returned (.bool true) ∧ Below w.heap.size w w' := by
  have N0 := Aside0.mk (one_new hL (Below.refl _ _))
  have LW := Aside0.mk life_walk
  clear hL
  go_enter Tryd.func12, Tryd.ntmps12
  go_wp2_with (fail)
  refine N0.out.mono ?_
  rintro e w1 ⟨q, rfl, _, _, h⟩
  have O1 := Aside0.mk h
  clear h
  go_wp2_with (fail)
  refine (LW.out 256 w1).mono ?_
  rintro e w2 ⟨rfl, hb⟩
  have O2 := Aside0.mk (O1.out.step hb)
  clear hb
  go_wp2_with (fail)
  refine (add_call O2.out.sad (by decide) 0 (lf 256)).mono ?_
  rintro e w3 h
  rw [awa] at h
  obtain ⟨rfl, h'⟩ := O2.out.turn h
  have O3 := Aside0.mk h'
  clear h h'
  go_wp2_with (fail)
  refine (send_call (k := 0) O3.out.sad O3.out.laid (by decide) 0 256 10 (by decide) (by decide) (fun e he => by rw [List.mem_singleton.1 he]; exact awg1) (by decide) (by decide)).mono ?_
  rintro e w4 h
  rw [awb] at h
  obtain ⟨he, h'⟩ := O3.out.turn h
  change e = .returned (.tuple #[.agg #[.int .i64 256, .string ⟨#[48, 49, 50, 51, 52, 53, 54, 55, 56, 57, 97, 98, 99, 100, 101, 102]⟩, .string ⟨#[115, 97, 108, 116]⟩, .string ⟨#[48, 49, 50, 51, 52, 53, 54, 55, 56, 57, 97, 98, 99, 100, 101, 102, 48, 49, 50, 51, 52, 53, 54, 55, 56, 57, 97, 98, 99, 100, 101, 102]⟩, .bool false, .int .i64 64], .int .u64 1, .int .i64 0]) at he
  subst he
  have O4 := Aside0.mk h'
  clear h h'
  go_wp2_with (first | ((with_reducible refine gate_dst (N := 3) rfl ?_); refine box_event ?hg (N := 3) ?hd (cs := #[.int .i64 0, .string ByteArray.empty, .string ByteArray.empty, .string ByteArray.empty, .bool false, .int .i64 0]) (t := 25) ?hr ?_; (case hd => rfl); (case hg => rfl); (case hr => first | (go_simp; done) | (go_simp; rfl)); intro q3 hq wb hbox hb; have BK3 := Aside0.mk hbox; have HQ3 := Aside0.mk (show w4.heap.size ≤ q3 from by rw [hq]; exact Nat.le_refl _); have HB4 := Aside0.mk hb; clear hbox hb hq) | ((with_reducible refine gate_store (t := 25) (p := 3) rfl ?_); refine store_rowE ?hg 25 (.tmp 3) (.tmp 20) ?ho ?hN q3 ((enc25 (lf 256).f0).toArray) ?hx ?hy 25 _ BK3.out ?hi ?hold ?h1 ?_; (case hg => rfl); (case ho => rfl); (case hN => rfl); (case hx => rfl); (case hy => rfl); (case hi => exact isz25); (case hold => rfl); (case h1 => exact one25 _); intro w5 hw; have HB5 := Aside0.mk (show Below w4.heap.size w4 w5 from by rw [hw]; exact below_setRow HB4.out HQ3.out _); clear hw))
  have O5 := Aside0.mk (O4.out.step HB5.out)
  refine (pick_call O5.out.sad (by decide) 0 1 (fun e he => by rw [List.mem_singleton.1 he]; exact awg2.timed (by decide) (by decide))).mono ?_
  rintro e w6 h
  rw [awc] at h
  obtain ⟨rfl, h'⟩ := O5.out.turn h
  have O6 := Aside0.mk h'
  clear h h'
  go_wp2_with (fail)
  refine (LW.out 257 w6).mono ?_
  rintro e w7 ⟨rfl, hb⟩
  have O7 := Aside0.mk (O6.out.step hb)
  clear hb
  go_wp2_with (fail)
  refine (add_call O7.out.sad (by decide) 0 (lf 257)).mono ?_
  rintro e w8 h
  rw [awd] at h
  obtain ⟨rfl, h'⟩ := O7.out.turn h
  have O8 := Aside0.mk h'
  clear h h'
  go_wp2_with (fail)
  refine (pick_call O8.out.sad (by decide) 0 1 (fun e he => by rcases List.mem_cons.1 he with rfl | he; exact awg2.timed (by decide) (by decide); rw [List.mem_singleton.1 he]; exact awg3.timed (by decide) (by decide))).mono ?_
  rintro e w9 h
  rw [awe] at h
  obtain ⟨rfl, h'⟩ := O8.out.turn h
  have O9 := Aside0.mk h'
  clear h h'
  go_wp2_with (fail)
  go_ret
  exact ⟨rfl, O9.out.below⟩
end Go.Proofs.YtkmnpnbfeiobiaaDoor.Sd
