/- The law SadNil. -/
import Derived.Test.YtkmnpnbfeiobiaaDoorSdO
namespace Go.Proofs.YtkmnpnbfeiobiaaDoor.Sd
open Go.RowKit Go.Proofs.YtkmnpnbfeiobiaaDoorW.PrintWords Go.Proofs.YtkmnpnbfeiobiaaDoorW.PrintLast Go.Proofs.YtkmnpnbfeiobiaaDoorW.PrintMore Go.Proofs.YtkmnpnbfeiobiaaDoor.QSa
open Go.Proofs.YtkmnpnbfeiobiaaDoor
set_option linter.unusedVariables false
set_option linter.unusedSimpArgs false
set_option maxHeartbeats 3200000 in
set_option maxRecDepth 100000 in
theorem nil_main {w : World} (hL : Laid w) (now spi : Int) (x : S27) :
    Calls Tryd.prog 7 #[.int .i64 now, .int .i64 spi, .agg (#[.int .i64 x.f0.f0, .string x.f0.f1, .string x.f0.f2, .string x.f0.f3, .bool x.f0.f4, .int .i64 x.f0.f5, .int .i64 x.f1, .bool x.f2, .int .i64 x.f3, .int .i64 x.f4, .int .i64 x.f5, .int .i64 x.f6])] w fun e w' => e = .returned (.bool true) ∧ Below w.heap.size w w' := by
  have HL := Aside0.mk fun (W : World) (hb : Below w.heap.size w W) => hL.below hL.pos hb
  clear hL
  go_enter Tryd.func7, Tryd.ntmps7
  go_wp2_with (first | ((with_reducible refine gate_dst (N := 5) rfl ?_); refine box_event ?hg (N := 5) ?hd (cs := #[.int .i64 x.f0.f0, .string x.f0.f1, .string x.f0.f2, .string x.f0.f3, .bool x.f0.f4, .int .i64 x.f0.f5, .int .i64 x.f1, .bool x.f2, .int .i64 x.f3, .int .i64 x.f4, .int .i64 x.f5, .int .i64 x.f6]) (t := 27) ?hr ?_; (case hd => rfl); (case hg => rfl); (case hr => first | (go_simp; done) | (go_simp; rfl)); intro q5 hq w1 hbox hb; have BKq5 := Aside0.mk hbox; have HQq5 := Aside0.mk (show w.heap.size ≤ q5 from by rw [hq]; exact Nat.le_refl _); have HB1 := Aside0.mk hb; clear hbox hb hq))
  refine (age_nil w1 (HL.out _ HB1.out) now spi true).mono ?_
  rintro e w2 ⟨rfl, hb⟩
  have HB2 := Aside0.mk (HB1.out.trans (hb.mono HB1.out.size))
  have BKq5 := Aside0.mk (blk_below BKq5.out hb)
  clear hb
  go_wp2_with (fail)
  refine (pick_nil w2 now spi).mono ?_
  rintro e w3 ⟨rfl, hb⟩
  have HB3 := Aside0.mk (HB2.out.trans (hb.mono HB2.out.size))
  have BKq5 := Aside0.mk (blk_below BKq5.out hb)
  clear hb
  go_wp2_with (fail)
  refine (send_nil w3 (HL.out _ HB3.out) now spi 1).mono ?_
  rintro e w4 ⟨he, hb⟩
  change e = .returned (.tuple #[.agg #[.int .i64 0, .string ByteArray.empty, .string ByteArray.empty, .string ByteArray.empty, .bool false, .int .i64 0], .int .u64 0, .int .i64 3]) at he
  subst he
  have HB4 := Aside0.mk (HB3.out.trans (hb.mono HB3.out.size))
  have BKq5 := Aside0.mk (blk_below BKq5.out hb)
  clear hb
  go_wp2_with (first | ((with_reducible refine gate_dst (N := 12) rfl ?_); refine box_event ?hg (N := 12) ?hd (cs := #[.int .i64 0, .string ByteArray.empty, .string ByteArray.empty, .string ByteArray.empty, .bool false, .int .i64 0]) (t := 25) ?hr ?_; (case hd => rfl); (case hg => rfl); (case hr => first | (go_simp; done) | (go_simp; rfl)); intro q12 hq w5 hbox hb; have HNq5q12 := Aside0.mk (show q5 ≠ q12 from by have := blk_lt BKq5.out; omega); have BKq5 := Aside0.mk (blk_below BKq5.out hb); have BKq12 := Aside0.mk hbox; have HQq12 := Aside0.mk (show w.heap.size ≤ q12 from by rw [hq]; exact HB4.out.size); have HB5 := Aside0.mk (HB4.out.trans (hb.mono HB4.out.size)); clear hbox hb hq) | ((with_reducible refine gate_store (t := 25) (p := 12) rfl ?_); refine store_rowE ?hg 25 (.tmp 12) (.tmp 37) ?ho ?hN q12 (#[.int .i64 0, .string ByteArray.empty, .string ByteArray.empty, .string ByteArray.empty, .bool false, .int .i64 0]) ?hx ?hy 25 _ BKq12.out ?hi ?hold ?h1 ?_; (case hg => rfl); (case ho => rfl); (case hN => rfl); (case hx => rfl); (case hy => rfl); (case hi => exact isz25); (case hold => rfl); (case h1 => first | rfl | exact one25 _ | simp [Value.oneCell']); intro w6 hw; have HB6 := Aside0.mk (show Below w.heap.size w w6 from by rw [hw]; exact below_setRow HB5.out HQq12.out _); have BKq12 := Aside0.mk (show w6.heap[q12]? = some (.cells (#[.int .i64 0, .string ByteArray.empty, .string ByteArray.empty, .string ByteArray.empty, .bool false, .int .i64 0]) 25 (0, 0)) from by rw [hw]; exact setRow_heap _ _ _ _ _ _ BKq12.out); have BKq5 := Aside0.mk (show w6.heap[q5]? = _ from (congrArg (fun W : World => W.heap[q5]?) hw).trans ((setRow_other _ _ _ _ HNq5q12.out).trans BKq5.out)); clear hw))
  refine (look_nil w6 (HL.out _ HB6.out) now spi 1).mono ?_
  rintro e w7 ⟨he, hb⟩
  change e = .returned (.tuple #[.agg #[.int .i64 0, .string ByteArray.empty, .string ByteArray.empty, .string ByteArray.empty, .bool false, .int .i64 0, .int .i64 0, .bool false, .int .i64 0, .int .i64 0, .int .i64 0, .int .i64 0], .int .u64 0, .int .i64 3]) at he
  subst he
  have HB7 := Aside0.mk (HB6.out.trans (hb.mono HB6.out.size))
  have BKq5 := Aside0.mk (blk_below BKq5.out hb)
  clear hb
  go_wp2_with (first | ((with_reducible refine gate_dst (N := 15) rfl ?_); refine box_event ?hg (N := 15) ?hd (cs := #[.int .i64 0, .string ByteArray.empty, .string ByteArray.empty, .string ByteArray.empty, .bool false, .int .i64 0, .int .i64 0, .bool false, .int .i64 0, .int .i64 0, .int .i64 0, .int .i64 0]) (t := 27) ?hr ?_; (case hd => rfl); (case hg => rfl); (case hr => first | (go_simp; done) | (go_simp; rfl)); intro q15 hq w8 hbox hb; have HNq5q15 := Aside0.mk (show q5 ≠ q15 from by have := blk_lt BKq5.out; omega); have BKq5 := Aside0.mk (blk_below BKq5.out hb); have BKq15 := Aside0.mk hbox; have HQq15 := Aside0.mk (show w.heap.size ≤ q15 from by rw [hq]; exact HB7.out.size); have HB8 := Aside0.mk (HB7.out.trans (hb.mono HB7.out.size)); clear hbox hb hq) | ((with_reducible refine gate_store (t := 27) (p := 15) rfl ?_); refine store_rowE ?hg 27 (.tmp 15) (.tmp 45) ?ho ?hN q15 (#[.int .i64 0, .string ByteArray.empty, .string ByteArray.empty, .string ByteArray.empty, .bool false, .int .i64 0, .int .i64 0, .bool false, .int .i64 0, .int .i64 0, .int .i64 0, .int .i64 0]) ?hx ?hy 27 _ BKq15.out ?hi ?hold ?h1 ?_; (case hg => rfl); (case ho => rfl); (case hN => rfl); (case hx => rfl); (case hy => rfl); (case hi => exact isz27); (case hold => rfl); (case h1 => first | rfl | exact one27 _ | simp [Value.oneCell']); intro w9 hw; have HB9 := Aside0.mk (show Below w.heap.size w w9 from by rw [hw]; exact below_setRow HB8.out HQq15.out _); have BKq15 := Aside0.mk (show w9.heap[q15]? = some (.cells (#[.int .i64 0, .string ByteArray.empty, .string ByteArray.empty, .string ByteArray.empty, .bool false, .int .i64 0, .int .i64 0, .bool false, .int .i64 0, .int .i64 0, .int .i64 0, .int .i64 0]) 27 (0, 0)) from by rw [hw]; exact setRow_heap _ _ _ _ _ _ BKq15.out); have BKq5 := Aside0.mk (show w9.heap[q5]? = _ from (congrArg (fun W : World => W.heap[q5]?) hw).trans ((setRow_other _ _ _ _ HNq5q15.out).trans BKq5.out)); clear hw))
  refine (awake_walk (HL.out _ HB9.out)).mono ?_
  rintro e w10 ⟨rfl, hb⟩
  have HB10 := Aside0.mk (HB9.out.trans (hb.mono HB9.out.size))
  have BKq5 := Aside0.mk (blk_below BKq5.out hb)
  have LD := Aside0.mk (load27b BKq5.out)
  clear hb
  go_wp2_with (first | ((with_reducible refine gate_dst (N := 83) rfl ?_); (try (refine gate_guard (by rfl) ?_; dsimp only)); refine Kd.event_run (v := .agg (#[.int .i64 x.f0.f0, .string x.f0.f1, .string x.f0.f2, .string x.f0.f3, .bool x.f0.f4, .int .i64 x.f0.f5, .int .i64 x.f1, .bool x.f2, .int .i64 x.f3, .int .i64 x.f4, .int .i64 x.f5, .int .i64 x.f6])) (w1 := w10) ?hg (load_runA 27 (.tmp 5) ⟨q5, 0, none⟩ (#[.int .i64 x.f0.f0, .string x.f0.f1, .string x.f0.f2, .string x.f0.f3, .bool x.f0.f4, .int .i64 x.f0.f5, .int .i64 x.f1, .bool x.f2, .int .i64 x.f3, .int .i64 x.f4, .int .i64 x.f5, .int .i64 x.f6]) ?ho ?hx LD.out) ?_; (case hg => rfl); (case ho => rfl); (case hx => rfl)))
  refine (add_nil w10 now x).mono ?_
  rintro e w11 ⟨rfl, hb⟩
  have HB11 := Aside0.mk (HB10.out.trans (hb.mono HB10.out.size))
  clear hb
  go_wp2_with (fail)
  refine (rem_nil w11 (HL.out _ HB11.out) spi true).mono ?_
  rintro e w12 ⟨rfl, hb⟩
  have HB12 := Aside0.mk (HB11.out.trans (hb.mono HB11.out.size))
  clear hb
  go_wp2_with (fail)
  refine (take_nil w12 (HL.out _ HB12.out) now spi 1 1).mono ?_
  rintro e w13 ⟨rfl, hb⟩
  have HB13 := Aside0.mk (HB12.out.trans (hb.mono HB12.out.size))
  clear hb
  go_wp2_with (fail)
  refine (list_nil w13).mono ?_
  rintro e w14 ⟨rfl, hb⟩
  have HB14 := Aside0.mk (HB13.out.trans (hb.mono HB13.out.size))
  clear hb
  go_wp2_with (fail)
  go_ret
  exact ⟨rfl, HB14.out⟩
theorem nil_law (now spi : Int) (x0 : Int) (x1 : ByteArray) (x2 : ByteArray) (x3 : ByteArray) (x4 : Bool) (x5 : Int) (x6 : Int) (x7 : Bool) (x8 : Int) (x9 : Int) (x10 : Int) (x11 : Int) (w : World) (hL : Laid w) (hnow : (Lit.int .i64 now).wf = true) (hspi : (Lit.int .i64 spi).wf = true) (h0 : (Lit.int .i64 x0).wf = true) (h5 : (Lit.int .i64 x5).wf = true) (h6 : (Lit.int .i64 x6).wf = true) (h8 : (Lit.int .i64 x8).wf = true) (h9 : (Lit.int .i64 x9).wf = true) (h10 : (Lit.int .i64 x10).wf = true) (h11 : (Lit.int .i64 x11).wf = true) (hz : x1.size ≤ 140737488351232 ∧ x2.size ≤ 140737488351232 ∧ x3.size ≤ 140737488351232) :
    Calls Tryd.prog 7 #[.int .i64 now, .int .i64 spi, .agg #[.int .i64 x0, .string x1, .string x2, .string x3, .bool x4, .int .i64 x5, .int .i64 x6, .bool x7, .int .i64 x8, .int .i64 x9, .int .i64 x10, .int .i64 x11]] w fun e w' => e = .returned (.bool true) ∧ Below w.heap.size w w' :=
  nil_main hL now spi ⟨⟨x0, x1, x2, x3, x4, x5⟩, x6, x7, x8, x9, x10, x11⟩
end Go.Proofs.YtkmnpnbfeiobiaaDoor.Sd
