/- Look and Send of the program. -/
import Derived.Test.YtkmnpnbfeiobiaaDoorSdJ
namespace Go.Proofs.YtkmnpnbfeiobiaaDoor.Sd
open Go.RowKit Go.Proofs.YtkmnpnbfeiobiaaDoorW.PrintWords Go.Proofs.YtkmnpnbfeiobiaaDoorW.PrintLast Go.Proofs.YtkmnpnbfeiobiaaDoorW.PrintMore Go.Proofs.YtkmnpnbfeiobiaaDoor.QSa
open Go.Proofs.YtkmnpnbfeiobiaaDoor
set_option linter.unusedVariables false
set_option linter.unusedSimpArgs false
theorem results_c3 {P : Program} {fn : Func} {p t u : Tmp} {ty : TypeId} (h : fn.results = #[.cell p ty, .tmp t, .tmp u]) (tmps : Array Value) (w : World) (g : Nat) (t' : TypeId) (cs : Array Value) (fr : Nat × Nat) (d : TypeDesc)
    (hp : tmps.getD p undef = .pointer (some ⟨g, 0, none⟩)) (hg : w.heap[g]? = some (.cells cs t' fr))
    (hu : P.underlying ty = some d) (hd : (match d with | .struct _ | .array _ _ => true | _ => false) = true) (hi : (P.info? ty).map (·.size) = some cs.size) :
    (results fn tmps).run P w = .ok (.tuple #[.agg cs, tmps.getD t undef, tmps.getD u undef]) w := by
  have hp' : tmps[p]?.getD undef = .pointer (some ⟨g, 0, none⟩) := by simpa using hp
  simp [results, h, hp', asAddr, run_loadVar_row w g t' ty cs fr d hg hu hd hi]
def v27 (x : S27) : Value := .agg (enc27 x).toArray
def v25 (x : S25) : Value := .agg (enc25 x).toArray
set_option maxHeartbeats 1600000 in
set_option maxRecDepth 100000 in
theorem look_no {w : World} {p : Option Addr} {c : Int} (hL : Laid w) (now spi low : Int) (hv : ∀ W, Below w.heap.size w W → Calls Tryd.prog 27 #[.pointer p, .int .i64 now, .int .i64 spi, .bool false] W (FindNo c W)) :
    Calls Tryd.prog 18 #[.pointer p, .int .i64 now, .int .i64 spi, .int .i64 low] w fun e w' => e = .returned (.tuple #[v27 z27, .int .u64 0, .int .i64 c]) ∧ Below w.heap.size w w' := by
  have HV := Aside0.mk hv
  have HL := Aside0.mk fun (W : World) (hb : Below w.heap.size w W) => hL.below hL.pos hb
  clear hv hL
  go_enter Tryd.func18, Tryd.ntmps18
  go_wp2_with (first | ((with_reducible refine gate_dst (N := 8) rfl ?_); refine box_event ?hg (N := 8) ?hd (cs := #[.int .i64 0, .string ByteArray.empty, .string ByteArray.empty, .string ByteArray.empty, .bool false, .int .i64 0, .int .i64 0, .bool false, .int .i64 0, .int .i64 0, .int .i64 0, .int .i64 0]) (t := 27) ?hr ?_; (case hd => rfl); (case hg => rfl); (case hr => first | (go_simp; done) | (go_simp; rfl)); intro q8 hq w1 hbox hb; have BKq8 := Aside0.mk hbox; have HQq8 := Aside0.mk (show w.heap.size ≤ q8 from by rw [hq]; exact Nat.le_refl _); have HB1 := Aside0.mk hb; clear hbox hb hq))
  refine (HV.out w1 HB1.out).mono ?_
  rintro e w2 ⟨⟨v, rfl, hv⟩, hb⟩
  have HB2 := Aside0.mk (HB1.out.trans (hb.mono HB1.out.size))
  have BKq8 := Aside0.mk (blk_below BKq8.out hb)
  have NW := Aside0.mk (number_walk (HL.out w2 HB2.out) hv)
  obtain ⟨k, s, rfl, _⟩ := hv
  clear hb
  go_wp2_with (fail)
  refine NW.out.mono ?_
  rintro e w3 ⟨rfl, hb⟩
  have HB3 := Aside0.mk (HB2.out.trans (hb.mono HB2.out.size))
  have BKq8 := Aside0.mk (blk_below BKq8.out hb)
  clear hb
  go_wp2_with (first | ((with_reducible refine gate_store (t := 27) (p := 8) rfl ?_); refine store_rowE ?hg 27 (.tmp 8) (.tmp 24) ?ho ?hN q8 (#[.int .i64 0, .string ByteArray.empty, .string ByteArray.empty, .string ByteArray.empty, .bool false, .int .i64 0, .int .i64 0, .bool false, .int .i64 0, .int .i64 0, .int .i64 0, .int .i64 0]) ?hx ?hy 27 _ BKq8.out ?hi ?hold ?h1 ?_; (case hg => rfl); (case ho => rfl); (case hN => rfl); (case hx => rfl); (case hy => rfl); (case hi => exact isz27); (case hold => rfl); (case h1 => first | rfl | exact one27 _ | simp [Value.oneCell']); intro w4 hw; have HB4 := Aside0.mk (show Below w.heap.size w w4 from by rw [hw]; exact below_setRow HB3.out HQq8.out _); have BKq8 := Aside0.mk (show w4.heap[q8]? = some (.cells (#[.int .i64 0, .string ByteArray.empty, .string ByteArray.empty, .string ByteArray.empty, .bool false, .int .i64 0, .int .i64 0, .bool false, .int .i64 0, .int .i64 0, .int .i64 0, .int .i64 0]) 27 (0, 0)) from by rw [hw]; exact setRow_heap _ _ _ _ _ _ BKq8.out); clear hw))
  (try simp only [Exit.inBlock, Exit.then])
  refine bodyPost_ret (results_c3 Tryd.results18 _ _ q8 27 _ (0, 0) _ rfl BKq8.out Tryd.underlying27 rfl isz27) rfl ?_
  exact ⟨rfl, HB4.out⟩
/-- The number that a lower half tells is a natural one. -/
theorem inferE_nat (wide : Bool) (T L low : Int) (hT : 0 ≤ T) : ∃ m : Nat, (Win.inferE wide T L low).1 = (m : Int) := by
  unfold Win.inferE
  split
  · exact ⟨0, rfl⟩
  · split
    · exact ⟨low.toNat, by show low = _; omega⟩
    · split
      · exact ⟨0, rfl⟩
      · exact ⟨(Win.inferH T L low * 4294967296 + low).toNat, by show Win.inferH T L low * 4294967296 + low = _; omega⟩
def lookW (e : En) (low : Int) : Int × Int := Win.inferE e.life.f0.f4 e.st.1 e.st.2.length low
def lookF (es : List En) (now spi low : Int) : S27 × Int × Int :=
  if findI es spi false < es.length then (if ageE (es.getD (findI es spi false) en0) now = 2 then (z27, 0, 171) else if (lookW (es.getD (findI es spi false) en0) low).2 = 0 then (if Win.chk (es.getD (findI es spi false) en0).life.f0.f4 (es.getD (findI es spi false) en0).st (lookW (es.getD (findI es spi false) en0) low).1.toNat = 0 then ((es.getD (findI es spi false) en0).life, (lookW (es.getD (findI es spi false) en0) low).1, 0) else (z27, 0, Win.chk (es.getD (findI es spi false) en0).life.f0.f4 (es.getD (findI es spi false) en0).st (lookW (es.getD (findI es spi false) en0) low).1.toNat)) else (z27, 0, (lookW (es.getD (findI es spi false) en0) low).2)) else (z27, 0, 6)
set_option maxHeartbeats 3200000 in
set_option maxRecDepth 100000 in
theorem look_yes {w : World} {base q k : Nat} {v : Value} {ps : List Pl} {es : List En} (hp : SadP w base q v ps es) (hl : es.length ≤ 1000) (now spi low : Int) (hf : findI es spi false < es.length) (hg : Good k (es.getD (findI es spi false) en0)) (ht : Timed (es.getD (findI es spi false) en0) now)
    (ha : ageE (es.getD (findI es spi false) en0) now ≠ 2) :
    Calls Tryd.prog 18 #[.pointer (some ⟨q, 0, none⟩), .int .i64 now, .int .i64 spi, .int .i64 low] w fun e w' => e = .returned (.tuple #[v27 (lookF es now spi low).1, .int .u64 (lookF es now spi low).2.1, .int .i64 (lookF es now spi low).2.2]) ∧ Below w.heap.size w w' := by
  have LV := Aside0.mk fun (W : World) (hb : Below w.heap.size w W) => live_yes now spi false (find_yes (hp.below hb) hl spi false hf) ((hp.below hb).at _ hf).blk ht ha
  unfold lookF
  rw [if_pos hf, if_neg ha]
  obtain ⟨i, hi⟩ : ∃ i, findI es spi false = i := ⟨_, rfl⟩
  rw [hi] at hf hg ht ha LV ⊢
  have HP := hp.at i hf
  obtain ⟨e, he⟩ : ∃ e, es.getD i en0 = e := ⟨_, rfl⟩
  obtain ⟨pl, hpl⟩ : ∃ p, ps.getD i pl0 = p := ⟨_, rfl⟩
  rw [he] at hg ⊢
  rw [hpl] at LV
  rw [he, hpl] at HP
  obtain ⟨h1, ⟨a, hu, hwa⟩, _, _, _⟩ := HP
  have hlen := hg.len
  have IW := Aside0.mk fun (W : World) (hb : Below w.heap.size w W) => Win.infer_walk (w := W) ⟨blk_below hwa.hs hb, blk_below hwa.ha hb, hwa.ne⟩ low hlen.2 hg.top
  have CW := Aside0.mk fun (W : World) (n : Nat) (hb : Below w.heap.size w W) => Win.check_walk (w := W) ⟨blk_below hwa.hs hb, blk_below hwa.ha hb, hwa.ne⟩ hlen.2 hlen.1 n hg.top
  have LD0 := Aside0.mk fun (W : World) (hb : Below w.heap.size w W) => load27 (blk_below h1 hb)
  have CG := Aside0.mk fun (W : World) (hb : Below w.heap.size w W) => (blk_cell (blk_below h1 hb) 15).trans (rfl : (encE e pl.g).toArray[15]? = some (.pointer (some ⟨pl.g, 0, none⟩)))
  obtain ⟨m, hm⟩ := inferE_nat e.life.f0.f4 e.st.1 e.st.2.length low (by omega)
  obtain ⟨f, hff⟩ : ∃ f, (lookW e low).2 = f := ⟨_, rfl⟩
  have hm2 : (lookW e low).1 = (m : Int) := hm
  rw [hff, hm2, Int.toNat_natCast]
  have IWE := Aside0.mk fun (W : World) (hb : Below w.heap.size w W) => (show Calls Tryd.prog 32 #[.pointer (some ⟨pl.g, 0, none⟩), .int .i64 low] W fun e' w' => e' = .returned (.tuple #[.int .u64 (m : Int), .int .i64 f]) ∧ ∃ m, w' = W.drewN m from by
    have := IW.out W hb
    rw [show Win.inferE e.life.f0.f4 e.st.1 e.st.2.length low = ((m : Int), f) from Prod.ext hm hff] at this
    exact this)
  obtain ⟨c, hc⟩ : ∃ c, Win.chk e.life.f0.f4 e.st m = c := ⟨_, rfl⟩
  have CWE := Aside0.mk fun (W : World) (hb : Below w.heap.size w W) => (show Calls Tryd.prog 33 #[.pointer (some ⟨pl.g, 0, none⟩), .int .u64 (m : Int)] W fun e' w' => e' = .returned (.int .i64 c) ∧ ∃ m, w' = W.drewN m from by
    have := CW.out W m hb
    rw [show Win.checkE e.life.f0.f4 e.st.1 m e.st.2 = c from hc] at this
    exact this)
  rw [hc]
  obtain ⟨x, hx⟩ : ∃ x, e.life = x := ⟨_, rfl⟩
  rw [hx] at LD0 ⊢
  obtain ⟨P, hP⟩ : ∃ P, pl.p = P := ⟨_, rfl⟩
  obtain ⟨G, hG⟩ : ∃ G, pl.g = G := ⟨_, rfl⟩
  rw [hP] at LV LD0 CG
  rw [hG] at CG IWE CWE
  clear hp hf hg ht ha h1 hu hwa hlen IW CW hm hff hm2 hc hx hP hG hi he hpl
  by_cases hf0 : f = 0
  · subst hf0
    rw [if_pos rfl]
    by_cases hc0 : c = 0
    · subst hc0
      rw [if_pos rfl]
      go_enter Tryd.func18, Tryd.ntmps18
      go_wp2_with (first | ((with_reducible refine gate_dst (N := 8) rfl ?_); refine box_event ?hg (N := 8) ?hd (cs := #[.int .i64 0, .string ByteArray.empty, .string ByteArray.empty, .string ByteArray.empty, .bool false, .int .i64 0, .int .i64 0, .bool false, .int .i64 0, .int .i64 0, .int .i64 0, .int .i64 0]) (t := 27) ?hr ?_; (case hd => rfl); (case hg => rfl); (case hr => first | (go_simp; done) | (go_simp; rfl)); intro q8 hq w1 hbox hb; have BKq8 := Aside0.mk hbox; have HQq8 := Aside0.mk (show w.heap.size ≤ q8 from by rw [hq]; exact Nat.le_refl _); have HB1 := Aside0.mk hb; clear hbox hb hq))
      refine (LV.out w1 HB1.out).mono ?_
      rintro e w2 ⟨rfl, hb⟩
      have HB2 := Aside0.mk (HB1.out.trans (hb.mono HB1.out.size))
      have BKq8 := Aside0.mk (blk_below BKq8.out hb)
      have c15 : w2.cell? ⟨P, 15, none⟩ = some (.pointer (some ⟨G, 0, none⟩)) := CG.out w2 HB2.out
      clear hb
      go_wp2_with (fail)
      refine (IWE.out w2 HB2.out).mono ?_
      rintro e w3 ⟨rfl, m3, rfl⟩
      have HB3 := Aside0.mk (pw_below_drewN HB2.out m3)
      have BKq8 := Aside0.mk (blk_drewN BKq8.out m3)
      clear c15
      have c15 : (w2.drewN m3).cell? ⟨P, 15, none⟩ = some (.pointer (some ⟨G, 0, none⟩)) := CG.out _ HB3.out
      obtain ⟨w3, hw3⟩ : ∃ W, w2.drewN m3 = W := ⟨_, rfl⟩
      rw [hw3] at HB3 BKq8 c15 ⊢
      clear hw3
      go_wp2_with (fail)
      refine (CWE.out w3 HB3.out).mono ?_
      rintro e w4 ⟨rfl, m4, rfl⟩
      have HB4 := Aside0.mk (pw_below_drewN HB3.out m4)
      have BKq8 := Aside0.mk (blk_drewN BKq8.out m4)
      have LD := Aside0.mk (show (loadVar 27 ⟨P, 0, none⟩).run Tryd.prog (w3.drewN m4) = .ok (.agg #[.int .i64 x.f0.f0, .string x.f0.f1, .string x.f0.f2, .string x.f0.f3, .bool x.f0.f4, .int .i64 x.f0.f5, .int .i64 x.f1, .bool x.f2, .int .i64 x.f3, .int .i64 x.f4, .int .i64 x.f5, .int .i64 x.f6]) (w3.drewN m4) from LD0.out _ HB4.out)
      obtain ⟨w4, hw4⟩ : ∃ W, w3.drewN m4 = W := ⟨_, rfl⟩
      rw [hw4] at HB4 BKq8 LD ⊢
      clear hw4
      go_wp2_with (first | ((with_reducible refine gate_dst (N := 51) rfl ?_); refine Kd.event_run (v := .agg #[.int .i64 x.f0.f0, .string x.f0.f1, .string x.f0.f2, .string x.f0.f3, .bool x.f0.f4, .int .i64 x.f0.f5, .int .i64 x.f1, .bool x.f2, .int .i64 x.f3, .int .i64 x.f4, .int .i64 x.f5, .int .i64 x.f6]) (w1 := w4) ?hg (load_runA 27 (.tmp 50) ⟨P, 0, none⟩ #[.int .i64 x.f0.f0, .string x.f0.f1, .string x.f0.f2, .string x.f0.f3, .bool x.f0.f4, .int .i64 x.f0.f5, .int .i64 x.f1, .bool x.f2, .int .i64 x.f3, .int .i64 x.f4, .int .i64 x.f5, .int .i64 x.f6] ?ho ?hx LD.out) ?_; (case hg => rfl); (case ho => rfl); (case hx => rfl)) | ((with_reducible refine gate_store (t := 27) (p := 8) rfl ?_); refine store_rowE ?hg 27 (.tmp 8) (.tmp 51) ?ho ?hN q8 (#[.int .i64 x.f0.f0, .string x.f0.f1, .string x.f0.f2, .string x.f0.f3, .bool x.f0.f4, .int .i64 x.f0.f5, .int .i64 x.f1, .bool x.f2, .int .i64 x.f3, .int .i64 x.f4, .int .i64 x.f5, .int .i64 x.f6]) ?hx ?hy 27 _ BKq8.out ?hi ?hold ?h1 ?_; (case hg => rfl); (case ho => rfl); (case hN => rfl); (case hx => rfl); (case hy => rfl); (case hi => exact isz27); (case hold => rfl); (case h1 => first | rfl | exact one27 _ | simp [Value.oneCell']); intro w5 hw; have HB5 := Aside0.mk (show Below w.heap.size w w5 from by rw [hw]; exact below_setRow HB4.out HQq8.out _); have BKq8 := Aside0.mk (show w5.heap[q8]? = some (.cells (#[.int .i64 x.f0.f0, .string x.f0.f1, .string x.f0.f2, .string x.f0.f3, .bool x.f0.f4, .int .i64 x.f0.f5, .int .i64 x.f1, .bool x.f2, .int .i64 x.f3, .int .i64 x.f4, .int .i64 x.f5, .int .i64 x.f6]) 27 (0, 0)) from by rw [hw]; exact setRow_heap _ _ _ _ _ _ BKq8.out); clear hw))
      (try simp only [Exit.inBlock, Exit.then])
      refine bodyPost_ret (results_c3 Tryd.results18 _ _ q8 27 _ (0, 0) _ rfl BKq8.out Tryd.underlying27 rfl isz27) rfl ?_
      exact ⟨rfl, HB5.out⟩
    · rw [if_neg hc0]
      have hcb : (c == 0) = false := by rw [beq_eq_false_iff_ne]; exact hc0
      have hcb2 : (c != 0) = true := by rw [bne_iff_ne]; exact hc0
      clear hc0
      go_enter Tryd.func18, Tryd.ntmps18
      go_wp2_with (first | ((with_reducible refine gate_dst (N := 8) rfl ?_); refine box_event ?hg (N := 8) ?hd (cs := #[.int .i64 0, .string ByteArray.empty, .string ByteArray.empty, .string ByteArray.empty, .bool false, .int .i64 0, .int .i64 0, .bool false, .int .i64 0, .int .i64 0, .int .i64 0, .int .i64 0]) (t := 27) ?hr ?_; (case hd => rfl); (case hg => rfl); (case hr => first | (go_simp; done) | (go_simp; rfl)); intro q8 hq w1 hbox hb; have BKq8 := Aside0.mk hbox; have HQq8 := Aside0.mk (show w.heap.size ≤ q8 from by rw [hq]; exact Nat.le_refl _); have HB1 := Aside0.mk hb; clear hbox hb hq))
      refine (LV.out w1 HB1.out).mono ?_
      rintro e w2 ⟨rfl, hb⟩
      have HB2 := Aside0.mk (HB1.out.trans (hb.mono HB1.out.size))
      have BKq8 := Aside0.mk (blk_below BKq8.out hb)
      have c15 : w2.cell? ⟨P, 15, none⟩ = some (.pointer (some ⟨G, 0, none⟩)) := CG.out w2 HB2.out
      clear hb
      go_wp2_with (fail)
      refine (IWE.out w2 HB2.out).mono ?_
      rintro e w3 ⟨rfl, m3, rfl⟩
      have HB3 := Aside0.mk (pw_below_drewN HB2.out m3)
      have BKq8 := Aside0.mk (blk_drewN BKq8.out m3)
      clear c15
      have c15 : (w2.drewN m3).cell? ⟨P, 15, none⟩ = some (.pointer (some ⟨G, 0, none⟩)) := CG.out _ HB3.out
      obtain ⟨w3, hw3⟩ : ∃ W, w2.drewN m3 = W := ⟨_, rfl⟩
      rw [hw3] at HB3 BKq8 c15 ⊢
      clear hw3
      go_wp2_with (fail)
      refine (CWE.out w3 HB3.out).mono ?_
      rintro e w4 ⟨rfl, m4, rfl⟩
      have HB4 := Aside0.mk (pw_below_drewN HB3.out m4)
      have BKq8 := Aside0.mk (blk_drewN BKq8.out m4)
      obtain ⟨w4, hw4⟩ : ∃ W, w3.drewN m4 = W := ⟨_, rfl⟩
      rw [hw4] at HB4 BKq8 ⊢
      clear hw4
      go_wp2_with (first | ((with_reducible refine gate_store (t := 27) (p := 8) rfl ?_); refine store_rowE ?hg 27 (.tmp 8) (.tmp 46) ?ho ?hN q8 (#[.int .i64 0, .string ByteArray.empty, .string ByteArray.empty, .string ByteArray.empty, .bool false, .int .i64 0, .int .i64 0, .bool false, .int .i64 0, .int .i64 0, .int .i64 0, .int .i64 0]) ?hx ?hy 27 _ BKq8.out ?hi ?hold ?h1 ?_; (case hg => rfl); (case ho => rfl); (case hN => rfl); (case hx => rfl); (case hy => rfl); (case hi => exact isz27); (case hold => rfl); (case h1 => first | rfl | exact one27 _ | simp [Value.oneCell']); intro w5 hw; have HB5 := Aside0.mk (show Below w.heap.size w w5 from by rw [hw]; exact below_setRow HB4.out HQq8.out _); have BKq8 := Aside0.mk (show w5.heap[q8]? = some (.cells (#[.int .i64 0, .string ByteArray.empty, .string ByteArray.empty, .string ByteArray.empty, .bool false, .int .i64 0, .int .i64 0, .bool false, .int .i64 0, .int .i64 0, .int .i64 0, .int .i64 0]) 27 (0, 0)) from by rw [hw]; exact setRow_heap _ _ _ _ _ _ BKq8.out); clear hw))
      (try simp only [Exit.inBlock, Exit.then])
      refine bodyPost_ret (results_c3 Tryd.results18 _ _ q8 27 _ (0, 0) _ rfl BKq8.out Tryd.underlying27 rfl isz27) rfl ?_
      exact ⟨rfl, HB5.out⟩
  · rw [if_neg hf0]
    have hcb : (f == 0) = false := by rw [beq_eq_false_iff_ne]; exact hf0
    have hcb2 : (f != 0) = true := by rw [bne_iff_ne]; exact hf0
    clear hf0
    go_enter Tryd.func18, Tryd.ntmps18
    go_wp2_with (first | ((with_reducible refine gate_dst (N := 8) rfl ?_); refine box_event ?hg (N := 8) ?hd (cs := #[.int .i64 0, .string ByteArray.empty, .string ByteArray.empty, .string ByteArray.empty, .bool false, .int .i64 0, .int .i64 0, .bool false, .int .i64 0, .int .i64 0, .int .i64 0, .int .i64 0]) (t := 27) ?hr ?_; (case hd => rfl); (case hg => rfl); (case hr => first | (go_simp; done) | (go_simp; rfl)); intro q8 hq w1 hbox hb; have BKq8 := Aside0.mk hbox; have HQq8 := Aside0.mk (show w.heap.size ≤ q8 from by rw [hq]; exact Nat.le_refl _); have HB1 := Aside0.mk hb; clear hbox hb hq))
    refine (LV.out w1 HB1.out).mono ?_
    rintro e w2 ⟨rfl, hb⟩
    have HB2 := Aside0.mk (HB1.out.trans (hb.mono HB1.out.size))
    have BKq8 := Aside0.mk (blk_below BKq8.out hb)
    have c15 : w2.cell? ⟨P, 15, none⟩ = some (.pointer (some ⟨G, 0, none⟩)) := CG.out w2 HB2.out
    clear hb
    go_wp2_with (fail)
    refine (IWE.out w2 HB2.out).mono ?_
    rintro e w3 ⟨rfl, m3, rfl⟩
    have HB3 := Aside0.mk (pw_below_drewN HB2.out m3)
    have BKq8 := Aside0.mk (blk_drewN BKq8.out m3)
    clear c15
    have c15 : (w2.drewN m3).cell? ⟨P, 15, none⟩ = some (.pointer (some ⟨G, 0, none⟩)) := CG.out _ HB3.out
    obtain ⟨w3, hw3⟩ : ∃ W, w2.drewN m3 = W := ⟨_, rfl⟩
    rw [hw3] at HB3 BKq8 c15 ⊢
    clear hw3
    go_wp2_with (first | ((with_reducible refine gate_store (t := 27) (p := 8) rfl ?_); refine store_rowE ?hg 27 (.tmp 8) (.tmp 46) ?ho ?hN q8 (#[.int .i64 0, .string ByteArray.empty, .string ByteArray.empty, .string ByteArray.empty, .bool false, .int .i64 0, .int .i64 0, .bool false, .int .i64 0, .int .i64 0, .int .i64 0, .int .i64 0]) ?hx ?hy 27 _ BKq8.out ?hi ?hold ?h1 ?_; (case hg => rfl); (case ho => rfl); (case hN => rfl); (case hx => rfl); (case hy => rfl); (case hi => exact isz27); (case hold => rfl); (case h1 => first | rfl | exact one27 _ | simp [Value.oneCell']); intro w4 hw; have HB4 := Aside0.mk (show Below w.heap.size w w4 from by rw [hw]; exact below_setRow HB3.out HQq8.out _); have BKq8 := Aside0.mk (show w4.heap[q8]? = some (.cells (#[.int .i64 0, .string ByteArray.empty, .string ByteArray.empty, .string ByteArray.empty, .bool false, .int .i64 0, .int .i64 0, .bool false, .int .i64 0, .int .i64 0, .int .i64 0, .int .i64 0]) 27 (0, 0)) from by rw [hw]; exact setRow_heap _ _ _ _ _ _ BKq8.out); clear hw))
    (try simp only [Exit.inBlock, Exit.then])
    refine bodyPost_ret (results_c3 Tryd.results18 _ _ q8 27 _ (0, 0) _ rfl BKq8.out Tryd.underlying27 rfl isz27) rfl ?_
    exact ⟨rfl, HB4.out⟩
theorem look_call {w : World} {base q k : Nat} {es : List En} (h : SadX w base q es) (hL : Laid w) (hl : es.length ≤ 1000) (now spi low : Int) (hg : ∀ e ∈ es, Good k e) (h0 : -1000000000 ≤ now) (h1 : now ≤ 4000000000) :
    Calls Tryd.prog 18 #[.pointer (some ⟨q, 0, none⟩), .int .i64 now, .int .i64 spi, .int .i64 low] w (PgQ base q es (.tuple #[v27 (lookF es now spi low).1, .int .u64 (lookF es now spi low).2.1, .int .i64 (lookF es now spi low).2.2]) w) := by
  obtain ⟨v, ps, hp⟩ := h
  have ht : ∀ e ∈ es, Timed e now := fun e he => (hg e he).timed h0 h1
  by_cases hf : findI es spi false < es.length
  · by_cases ha : ageE (es.getD (findI es spi false) en0) now = 2
    · unfold lookF
      rw [if_pos hf, if_pos ha]
      exact (look_no hL now spi low fun W hb => live_hard now spi false (find_yes (hp.below hb) hl spi false hf) ((hp.below hb).at _ hf).blk (ht _ (getD_mem hf)) ha).mono fun e w' ⟨he, hb⟩ => ⟨he, ⟨_, _, hp.below hb⟩, .of_below hb⟩
    · exact (look_yes hp hl now spi low hf (hg _ (getD_mem hf)) (ht _ (getD_mem hf)) ha).mono fun e w' ⟨he, hb⟩ => ⟨he, ⟨_, _, hp.below hb⟩, .of_below hb⟩
  · unfold lookF
    rw [if_neg hf]
    exact (look_no hL now spi low fun W hb => live_no now spi false (find_no (hp.below hb) hl spi false hf)).mono fun e w' ⟨he, hb⟩ => ⟨he, ⟨_, _, hp.below hb⟩, .of_below hb⟩
theorem look_nil (w : World) (hL : Laid w) (now spi low : Int) : Calls Tryd.prog 18 #[.pointer none, .int .i64 now, .int .i64 spi, .int .i64 low] w fun e w' => e = .returned (.tuple #[v27 z27, .int .u64 0, .int .i64 3]) ∧ Below w.heap.size w w' :=
  look_no hL now spi low fun W hb => live_no now spi false (find_nil W spi false)
end Go.Proofs.YtkmnpnbfeiobiaaDoor.Sd
